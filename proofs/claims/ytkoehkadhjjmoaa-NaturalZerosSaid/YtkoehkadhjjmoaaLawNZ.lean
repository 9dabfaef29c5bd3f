/- The walk of the statement NaturalZeros: it returns true. -/
import Derived.Test.YtkoehkadhjjmoaaNatS
import Derived.Test.YtkoehkadhjjmoaaRefI
import Derived.Test.YtkoehkadhjjmoaaOpen
namespace Go.Proofs.Ytkoehkadhjjmoaa
open Go.RowKit Gm

set_option maxRecDepth 100000 in
set_option maxHeartbeats 4000000 in
theorem nzeros_ge0 (A0 : Option Addr) (xs0 : List Nat) (c0 : Nat) (A1 : Option Addr) (xs1 : List Nat) (c1 : Nat) (n : Nat) (w : World) (h0 : Lim w A0 c0 xs0) (h1 : Lim w A1 c1 xs1) (k0 : xs0.length ≤ 35184372087808) (k1 : xs1.length ≤ 35184372087808) (hc : val xs1 ≤ val xs0) (hz : val xs1 = 0) (hn : n ≤ 255) :
    Calls Try.prog 16 #[.slice A0 xs0.length c0, .slice A1 xs1.length c1, .int .u8 (n : Int)] w (RetB w true) := by
  obtain ⟨a, ea⟩ : ∃ s, val xs0 = s := ⟨_, rfl⟩
  have za : (limbs a).length ≤ 35184372087808 := by rw [← ea]; exact Nat.le_trans (limbs_length_le h0.lb) k0
  obtain ⟨b, eb⟩ : ∃ s, val xs1 = s := ⟨_, rfl⟩
  have zb : (limbs b).length ≤ 35184372087808 := by rw [← eb]; exact Nat.le_trans (limbs_length_le h1.lb) k1
  rw [ea, eb] at hc
  rw [eb] at hz
  obtain ⟨k5, e5⟩ : ∃ k, n % 5 = k := ⟨_, rfl⟩
  obtain ⟨k3, e3⟩ : ∃ k, n % 3 = k := ⟨_, rfl⟩
  have f5 : (n : Int) % 5 = (k5 : Int) := by omega
  have f5t : (n : Int).tmod 5 = (k5 : Int) := by rw [Int.tmod_eq_emod_of_nonneg (by omega)]; exact f5
  have f3 : (n : Int) % 3 = (k3 : Int) := by omega
  have f3t : (n : Int).tmod 3 = (k3 : Int) := by rw [Int.tmod_eq_emod_of_nonneg (by omega)]; exact f3
  have l5 : k5 ≤ 4 := by omega
  have l3 : k3 ≤ 4 := by omega
  clear e5 e3
  obtain ⟨s, es⟩ : ∃ s, a + b = s := ⟨_, rfl⟩
  have zs : (limbs s).length ≤ 35184372087813 := Nat.le_trans (show (limbs s).length ≤ 35184372087809 by rw [← es]; exact limbs_add_le za zb) (by omega)
  obtain ⟨p, ep⟩ : ∃ s, a * b = s := ⟨_, rfl⟩
  have zp : (limbs p).length ≤ 70368744175616 := nmul_sz za zb ep (by omega)
  obtain ⟨g, eg⟩ : ∃ s, Nat.gcd a b = s := ⟨_, rfl⟩
  have zg : (limbs g).length ≤ 35184372087808 := gcd_sz za zb eg (Nat.le_refl _)
  obtain ⟨x, ex⟩ : ∃ s, nb a = s := ⟨_, rfl⟩
  obtain ⟨y, ey⟩ : ∃ x, cmpN a b = x := ⟨_, rfl⟩
  obtain ⟨d, ed⟩ : ∃ s, a - b = s := ⟨_, rfl⟩
  have zd : (limbs d).length ≤ 35184372087808 := Nat.le_trans (limbs_mono (by omega)) za
  have HC := Lib.hid hc
  have HZ := Lib.hid hz
  clear hc hz
  have b0 := bel1 w (.cells (cellsOf []) 54)
  have hr0 := Row.new w []
  have Ea := Lib.hid ea
  have Eb := Lib.hid eb
  have Es := Lib.hid es
  have Ep := Lib.hid ep
  have Eg := Lib.hid eg
  have Ex := Lib.hid ex
  have Ey := Lib.hid ey
  have Ed := Lib.hid ed
  clear ea eb es ep eg ex ey ed
  have hBel : Below w.heap.size w w := Below.refl _ _
  go_enter Try.func16, Try.ntmps16
  go_wp2_with (first
    | (at_builtin; refine wpList_appf rfl (.tmp 19) (.tmp 20) rfl w.heap.size xs0.length c0 A0 xs0 rfl rfl rfl hr0 (h0.below b0) k0 ?_; intro g1 m1 zs1 w1 hm1 hr1 hz1 ht1 hn1 hx1 hg1 b1; have hm1' := Lib.hid hm1; clear hm1; have ht1' := Lib.hid ht1; clear ht1)
    | (at_builtin; refine wpList_appz rfl (.tmp 21) (.tmp 23) rfl g1 xs0.length m1 k5 zs1 _ rfl rfl rfl hm1'.out hr1 hz1 hn1 hx1 l5 k0 ?_; intro A2 c2 X w2 hv2 hl2 h2 b2; have hv2' := Lib.hid hv2; clear hv2; have hl2' := Lib.hid hl2; clear hl2; have b02 : Below w.heap.size w w2 := (b0.trans (b1.mono b0.size)).trans (b2.mono hg1); have b00 := bel1 w2 (.cells (cellsOf []) 54); have hr00 := Row.new w2 [])
    | (at_builtin; refine wpList_appf rfl (.tmp 25) (.tmp 26) rfl w2.heap.size xs1.length c1 A1 xs1 rfl rfl rfl hr00 ((h1.below b02).below b00) k1 ?_; intro g3 m3 zs3 w3 hm3 hr3 hz3 ht3 hn3 hx3 hg3 b3; have hm3' := Lib.hid hm3; clear hm3; have ht3' := Lib.hid ht3; clear ht3)
    | (at_builtin; refine wpList_appz rfl (.tmp 27) (.tmp 29) rfl g3 xs1.length m3 k3 zs3 _ rfl rfl rfl hm3'.out hr3 hz3 hn3 hx3 l3 k1 ?_; intro A4 c4 Y w4 hv4 hl4 h4 b4; have hv4' := Lib.hid hv4; clear hv4; have hl4' := Lib.hid hl4; clear hl4))
  have b24 : Below w2.heap.size w2 w4 := (b00.trans (b3.mono b00.size)).trans (b4.mono hg3)
  replace hBel := b02.trans (b24.mono b02.size)
  have EX : Hid (val X = a) := Lib.hid (by rw [hv2'.out, ht1'.out]; exact Ea.out)
  have EY : Hid (val Y = b) := Lib.hid (by rw [hv4'.out, ht3'.out]; exact Eb.out)
  have kX : X.length ≤ 35184372087812 := by rw [hl2'.out]; omega
  have kY : Y.length ≤ 35184372087812 := by rw [hl4'.out]; omega
  replace h0 := (h0.below b02).below b24
  replace h1 := (h1.below b02).below b24
  replace h2 := h2.below b24
  clear hv2' hl2' hv4' hl4' hm1' ht1' hm3' ht3' hr1 hr3 hz1 hz3 hr0 hr00 b0 b00 b1 b2 b3 b4 b02 b24 hn1 hx1 hg1 hn3 hx3 hg3
  go_wp2_with fail
  refine (SubY_n A0 A1 xs0 xs1 c0 c1 w4 a b d 35184372087808 h0 h1 k0 Ea.out Eb.out HC.out Ed.out (by omega)).mono ?_
  rintro e w5 ⟨Ai, ci, rfl, qi, b9⟩
  replace hBel := hBel.trans (b9.mono hBel.size)
  replace h0 := h0.below b9
  replace h1 := h1.below b9
  replace h2 := h2.below b9
  replace h4 := h4.below b9
  have gi := qi.lim
  clear b9 qi
  go_wp2_with fail
  refine (SubY_n A2 A4 X Y c2 c4 w5 a b d 35184372087812 h2 h4 kX EX.out EY.out HC.out Ed.out (by omega)).mono ?_
  rintro e w6 ⟨Aj, cj, rfl, qj, b9⟩
  replace hBel := hBel.trans (b9.mono hBel.size)
  replace h0 := h0.below b9
  replace h1 := h1.below b9
  replace h2 := h2.below b9
  replace h4 := h4.below b9
  replace gi := gi.below b9
  have gj := qj.lim
  clear b9 qj
  go_wp2_with fail
  refine (DivModN_n A0 A1 xs0 xs1 c0 c1 w6 b h0 h1 Eb.out HZ.out).mono ?_
  rintro e w7 ⟨rfl, b9⟩
  replace hBel := hBel.trans (b9.mono hBel.size)
  replace h0 := h0.below b9
  replace h1 := h1.below b9
  replace h2 := h2.below b9
  replace h4 := h4.below b9
  replace gi := gi.below b9
  replace gj := gj.below b9
  clear b9
  go_wp2_with fail
  refine (DivModN_n A2 A4 X Y c2 c4 w7 b h2 h4 EY.out HZ.out).mono ?_
  rintro e w8 ⟨rfl, b9⟩
  replace hBel := hBel.trans (b9.mono hBel.size)
  replace h0 := h0.below b9
  replace h1 := h1.below b9
  replace h2 := h2.below b9
  replace h4 := h4.below b9
  replace gi := gi.below b9
  replace gj := gj.below b9
  clear b9
  go_wp2_with fail
  refine (awake1_c w8).mono ?_
  rintro e w9 ⟨rfl, b9⟩
  replace hBel := hBel.trans (b9.mono hBel.size)
  replace h0 := h0.below b9
  replace h1 := h1.below b9
  replace h2 := h2.below b9
  replace h4 := h4.below b9
  replace gi := gi.below b9
  replace gj := gj.below b9
  clear b9
  go_wp2_with fail
  refine (Add_n A0 A1 xs0 xs1 c0 c1 w9 a b s 35184372087808 35184372087808 h0 h1 k0 k1 Ea.out Eb.out Es.out (by omega) (by omega)).mono ?_
  rintro e w10 ⟨At, ct, rfl, qt, b9⟩
  replace hBel := hBel.trans (b9.mono hBel.size)
  replace h0 := h0.below b9
  replace h1 := h1.below b9
  replace h2 := h2.below b9
  replace h4 := h4.below b9
  replace gi := gi.below b9
  replace gj := gj.below b9
  have gt := qt.lim
  clear b9 qt
  go_wp2_with fail
  refine (Add_n A2 A4 X Y c2 c4 w10 a b s 35184372087812 35184372087812 h2 h4 kX kY EX.out EY.out Es.out (by omega) (by omega)).mono ?_
  rintro e w11 ⟨Au, cu, rfl, qu, b9⟩
  replace hBel := hBel.trans (b9.mono hBel.size)
  replace h0 := h0.below b9
  replace h1 := h1.below b9
  replace h2 := h2.below b9
  replace h4 := h4.below b9
  replace gi := gi.below b9
  replace gj := gj.below b9
  replace gt := gt.below b9
  have gu := qu.lim
  clear b9 qu
  go_wp2_with fail
  refine (rEq_n At Au (limbs s) (limbs s) ct cu w11 35184372087813 35184372087813 gt gu zs zs rfl (by omega) (by omega)).mono ?_
  rintro e w12 ⟨rfl, b9⟩
  replace hBel := hBel.trans (b9.mono hBel.size)
  replace h0 := h0.below b9
  replace h1 := h1.below b9
  replace h2 := h2.below b9
  replace h4 := h4.below b9
  replace gi := gi.below b9
  replace gj := gj.below b9
  replace gt := gt.below b9
  replace gu := gu.below b9
  clear b9
  clear gt
  clear gu
  go_wp2_with fail
  refine (rEq_n Ai Aj (limbs d) (limbs d) ci cj w12 35184372087808 35184372087808 gi gj zd zd rfl (by omega) (by omega)).mono ?_
  rintro e w13 ⟨rfl, b9⟩
  replace hBel := hBel.trans (b9.mono hBel.size)
  replace h0 := h0.below b9
  replace h1 := h1.below b9
  replace h2 := h2.below b9
  replace h4 := h4.below b9
  replace gi := gi.below b9
  replace gj := gj.below b9
  clear b9
  clear gi
  clear gj
  go_wp2_with fail
  refine (Mul_n A0 A1 xs0 xs1 c0 c1 w13 a b p 35184372087808 35184372087808 h0 h1 k0 k1 Ea.out Eb.out Ep.out (by omega)).mono ?_
  rintro e w14 ⟨Av, cv, rfl, qv, b9⟩
  replace hBel := hBel.trans (b9.mono hBel.size)
  replace h0 := h0.below b9
  replace h1 := h1.below b9
  replace h2 := h2.below b9
  replace h4 := h4.below b9
  have gv := qv.lim
  clear b9 qv
  go_wp2_with fail
  refine (Mul_v A2 A4 X Y c2 c4 w14 a b p 35184372087812 35184372087812 h2 h4 kX kY EX.out EY.out Ep.out (by omega)).mono ?_
  rintro e w15 ⟨Aww, cww, rfl, qww, b9⟩
  replace hBel := hBel.trans (b9.mono hBel.size)
  replace h0 := h0.below b9
  replace h1 := h1.below b9
  replace h2 := h2.below b9
  replace h4 := h4.below b9
  replace gv := gv.below b9
  have gww := qww.lim
  clear b9 qww
  go_wp2_with fail
  refine (rEq_n Av Aww (limbs p) (limbs p) cv cww w15 70368744175616 70368744175616 gv gww zp zp rfl (by omega) (by omega)).mono ?_
  rintro e w16 ⟨rfl, b9⟩
  replace hBel := hBel.trans (b9.mono hBel.size)
  replace h0 := h0.below b9
  replace h1 := h1.below b9
  replace h2 := h2.below b9
  replace h4 := h4.below b9
  replace gv := gv.below b9
  replace gww := gww.below b9
  clear b9
  clear gv
  clear gww
  go_wp2_with fail
  refine (rEq_n none none [] [] 0 0 w16 0 0 (Lim.nil _ _) (Lim.nil _ _) (Nat.le_refl 0) (Nat.le_refl 0) rfl (by omega) (by omega)).mono ?_
  rintro e w17 ⟨rfl, b9⟩
  replace hBel := hBel.trans (b9.mono hBel.size)
  replace h0 := h0.below b9
  replace h1 := h1.below b9
  replace h2 := h2.below b9
  replace h4 := h4.below b9
  clear b9
  go_wp2_with fail
  refine (rEq_n none none [] [] 0 0 w17 0 0 (Lim.nil _ _) (Lim.nil _ _) (Nat.le_refl 0) (Nat.le_refl 0) rfl (by omega) (by omega)).mono ?_
  rintro e w18 ⟨rfl, b9⟩
  replace hBel := hBel.trans (b9.mono hBel.size)
  replace h0 := h0.below b9
  replace h1 := h1.below b9
  replace h2 := h2.below b9
  replace h4 := h4.below b9
  clear b9
  go_wp2_with fail
  refine (GCD_n A0 A1 xs0 xs1 c0 c1 w18 a b g 35184372087808 35184372087808 h0 h1 k0 k1 Ea.out Eb.out Eg.out (by omega) (by omega)).mono ?_
  rintro e w19 ⟨Ae, ce, rfl, qe, b9⟩
  replace hBel := hBel.trans (b9.mono hBel.size)
  replace h0 := h0.below b9
  replace h1 := h1.below b9
  replace h2 := h2.below b9
  replace h4 := h4.below b9
  have ge := qe.lim
  clear b9 qe
  go_wp2_with fail
  refine (GCD_n A2 A4 X Y c2 c4 w19 a b g 35184372087812 35184372087812 h2 h4 kX kY EX.out EY.out Eg.out (by omega) (by omega)).mono ?_
  rintro e w20 ⟨Af, cf, rfl, qf, b9⟩
  replace hBel := hBel.trans (b9.mono hBel.size)
  replace h0 := h0.below b9
  replace h1 := h1.below b9
  replace h2 := h2.below b9
  replace h4 := h4.below b9
  replace ge := ge.below b9
  have gf := qf.lim
  clear b9 qf
  go_wp2_with fail
  refine (rEq_n Ae Af (limbs g) (limbs g) ce cf w20 35184372087808 35184372087808 ge gf zg zg rfl (by omega) (by omega)).mono ?_
  rintro e w21 ⟨rfl, b9⟩
  replace hBel := hBel.trans (b9.mono hBel.size)
  replace h0 := h0.below b9
  replace h1 := h1.below b9
  replace h2 := h2.below b9
  replace h4 := h4.below b9
  replace ge := ge.below b9
  replace gf := gf.below b9
  clear b9
  clear ge
  clear gf
  go_wp2_with fail
  refine (Bits_n A0 xs0 c0 w21 a x 35184372087808 h0 k0 Ea.out Ex.out (by omega)).mono ?_
  rintro e w22 ⟨rfl, b9⟩
  replace hBel := hBel.trans (b9.mono hBel.size)
  replace h0 := h0.below b9
  replace h1 := h1.below b9
  replace h2 := h2.below b9
  replace h4 := h4.below b9
  clear b9
  go_wp2_with fail
  refine (Bits_n A2 X c2 w22 a x 35184372087812 h2 kX EX.out Ex.out (by omega)).mono ?_
  rintro e w23 ⟨rfl, b9⟩
  replace hBel := hBel.trans (b9.mono hBel.size)
  replace h0 := h0.below b9
  replace h1 := h1.below b9
  replace h2 := h2.below b9
  replace h4 := h4.below b9
  clear b9
  go_wp2_with fail
  refine (Compare_n A0 A1 xs0 xs1 c0 c1 w23 a b y h0 h1 Ea.out Eb.out Ey.out).mono ?_
  rintro e w24 ⟨rfl, b9⟩
  replace hBel := hBel.trans (b9.mono hBel.size)
  replace h0 := h0.below b9
  replace h1 := h1.below b9
  replace h2 := h2.below b9
  replace h4 := h4.below b9
  clear b9
  go_wp2_with fail
  refine (Compare_n A2 A4 X Y c2 c4 w24 a b y h2 h4 EX.out EY.out Ey.out).mono ?_
  rintro e w25 ⟨rfl, b9⟩
  replace hBel := hBel.trans (b9.mono hBel.size)
  replace h0 := h0.below b9
  replace h1 := h1.below b9
  replace h2 := h2.below b9
  replace h4 := h4.below b9
  clear b9
  go_wp2_with fail
  go_ret
  exact ⟨rfl, hBel⟩

set_option maxRecDepth 100000 in
set_option maxHeartbeats 4000000 in
theorem nzeros_ge (A0 : Option Addr) (xs0 : List Nat) (c0 : Nat) (A1 : Option Addr) (xs1 : List Nat) (c1 : Nat) (n : Nat) (w : World) (h0 : Lim w A0 c0 xs0) (h1 : Lim w A1 c1 xs1) (k0 : xs0.length ≤ 35184372087808) (k1 : xs1.length ≤ 35184372087808) (hc : val xs1 ≤ val xs0) (hz : val xs1 ≠ 0) (hn : n ≤ 255) :
    Calls Try.prog 16 #[.slice A0 xs0.length c0, .slice A1 xs1.length c1, .int .u8 (n : Int)] w (RetB w true) := by
  obtain ⟨a, ea⟩ : ∃ s, val xs0 = s := ⟨_, rfl⟩
  have za : (limbs a).length ≤ 35184372087808 := by rw [← ea]; exact Nat.le_trans (limbs_length_le h0.lb) k0
  obtain ⟨b, eb⟩ : ∃ s, val xs1 = s := ⟨_, rfl⟩
  have zb : (limbs b).length ≤ 35184372087808 := by rw [← eb]; exact Nat.le_trans (limbs_length_le h1.lb) k1
  rw [ea, eb] at hc
  rw [eb] at hz
  obtain ⟨k5, e5⟩ : ∃ k, n % 5 = k := ⟨_, rfl⟩
  obtain ⟨k3, e3⟩ : ∃ k, n % 3 = k := ⟨_, rfl⟩
  have f5 : (n : Int) % 5 = (k5 : Int) := by omega
  have f5t : (n : Int).tmod 5 = (k5 : Int) := by rw [Int.tmod_eq_emod_of_nonneg (by omega)]; exact f5
  have f3 : (n : Int) % 3 = (k3 : Int) := by omega
  have f3t : (n : Int).tmod 3 = (k3 : Int) := by rw [Int.tmod_eq_emod_of_nonneg (by omega)]; exact f3
  have l5 : k5 ≤ 4 := by omega
  have l3 : k3 ≤ 4 := by omega
  clear e5 e3
  obtain ⟨s, es⟩ : ∃ s, a + b = s := ⟨_, rfl⟩
  have zs : (limbs s).length ≤ 35184372087813 := Nat.le_trans (show (limbs s).length ≤ 35184372087809 by rw [← es]; exact limbs_add_le za zb) (by omega)
  obtain ⟨p, ep⟩ : ∃ s, a * b = s := ⟨_, rfl⟩
  have zp : (limbs p).length ≤ 70368744175616 := nmul_sz za zb ep (by omega)
  obtain ⟨g, eg⟩ : ∃ s, Nat.gcd a b = s := ⟨_, rfl⟩
  have zg : (limbs g).length ≤ 35184372087808 := gcd_sz za zb eg (Nat.le_refl _)
  obtain ⟨x, ex⟩ : ∃ s, nb a = s := ⟨_, rfl⟩
  obtain ⟨y, ey⟩ : ∃ x, cmpN a b = x := ⟨_, rfl⟩
  obtain ⟨d, ed⟩ : ∃ s, a - b = s := ⟨_, rfl⟩
  have zd : (limbs d).length ≤ 35184372087808 := Nat.le_trans (limbs_mono (by omega)) za
  obtain ⟨q, eq⟩ : ∃ s, a / b = s := ⟨_, rfl⟩
  have zq : (limbs q).length ≤ 35184372087808 := Nat.le_trans (limbs_mono (by rw [← eq]; exact Nat.div_le_self _ _)) za
  obtain ⟨r, er⟩ : ∃ s, a % b = s := ⟨_, rfl⟩
  have zr : (limbs r).length ≤ 35184372087808 := Nat.le_trans (limbs_mono (by rw [← er]; exact Nat.mod_le _ _)) za
  have HC := Lib.hid hc
  have HZ := Lib.hid hz
  clear hc hz
  have b0 := bel1 w (.cells (cellsOf []) 54)
  have hr0 := Row.new w []
  have Ea := Lib.hid ea
  have Eb := Lib.hid eb
  have Es := Lib.hid es
  have Ep := Lib.hid ep
  have Eg := Lib.hid eg
  have Ex := Lib.hid ex
  have Ey := Lib.hid ey
  have Ed := Lib.hid ed
  have Eq := Lib.hid eq
  have Er := Lib.hid er
  clear ea eb es ep eg ex ey ed eq er
  have hBel : Below w.heap.size w w := Below.refl _ _
  go_enter Try.func16, Try.ntmps16
  go_wp2_with (first
    | (at_builtin; refine wpList_appf rfl (.tmp 19) (.tmp 20) rfl w.heap.size xs0.length c0 A0 xs0 rfl rfl rfl hr0 (h0.below b0) k0 ?_; intro g1 m1 zs1 w1 hm1 hr1 hz1 ht1 hn1 hx1 hg1 b1; have hm1' := Lib.hid hm1; clear hm1; have ht1' := Lib.hid ht1; clear ht1)
    | (at_builtin; refine wpList_appz rfl (.tmp 21) (.tmp 23) rfl g1 xs0.length m1 k5 zs1 _ rfl rfl rfl hm1'.out hr1 hz1 hn1 hx1 l5 k0 ?_; intro A2 c2 X w2 hv2 hl2 h2 b2; have hv2' := Lib.hid hv2; clear hv2; have hl2' := Lib.hid hl2; clear hl2; have b02 : Below w.heap.size w w2 := (b0.trans (b1.mono b0.size)).trans (b2.mono hg1); have b00 := bel1 w2 (.cells (cellsOf []) 54); have hr00 := Row.new w2 [])
    | (at_builtin; refine wpList_appf rfl (.tmp 25) (.tmp 26) rfl w2.heap.size xs1.length c1 A1 xs1 rfl rfl rfl hr00 ((h1.below b02).below b00) k1 ?_; intro g3 m3 zs3 w3 hm3 hr3 hz3 ht3 hn3 hx3 hg3 b3; have hm3' := Lib.hid hm3; clear hm3; have ht3' := Lib.hid ht3; clear ht3)
    | (at_builtin; refine wpList_appz rfl (.tmp 27) (.tmp 29) rfl g3 xs1.length m3 k3 zs3 _ rfl rfl rfl hm3'.out hr3 hz3 hn3 hx3 l3 k1 ?_; intro A4 c4 Y w4 hv4 hl4 h4 b4; have hv4' := Lib.hid hv4; clear hv4; have hl4' := Lib.hid hl4; clear hl4))
  have b24 : Below w2.heap.size w2 w4 := (b00.trans (b3.mono b00.size)).trans (b4.mono hg3)
  replace hBel := b02.trans (b24.mono b02.size)
  have EX : Hid (val X = a) := Lib.hid (by rw [hv2'.out, ht1'.out]; exact Ea.out)
  have EY : Hid (val Y = b) := Lib.hid (by rw [hv4'.out, ht3'.out]; exact Eb.out)
  have kX : X.length ≤ 35184372087812 := by rw [hl2'.out]; omega
  have kY : Y.length ≤ 35184372087812 := by rw [hl4'.out]; omega
  replace h0 := (h0.below b02).below b24
  replace h1 := (h1.below b02).below b24
  replace h2 := h2.below b24
  clear hv2' hl2' hv4' hl4' hm1' ht1' hm3' ht3' hr1 hr3 hz1 hz3 hr0 hr00 b0 b00 b1 b2 b3 b4 b02 b24 hn1 hx1 hg1 hn3 hx3 hg3
  go_wp2_with fail
  refine (SubY_n A0 A1 xs0 xs1 c0 c1 w4 a b d 35184372087808 h0 h1 k0 Ea.out Eb.out HC.out Ed.out (by omega)).mono ?_
  rintro e w5 ⟨Ai, ci, rfl, qi, b9⟩
  replace hBel := hBel.trans (b9.mono hBel.size)
  replace h0 := h0.below b9
  replace h1 := h1.below b9
  replace h2 := h2.below b9
  replace h4 := h4.below b9
  have gi := qi.lim
  clear b9 qi
  go_wp2_with fail
  refine (SubY_n A2 A4 X Y c2 c4 w5 a b d 35184372087812 h2 h4 kX EX.out EY.out HC.out Ed.out (by omega)).mono ?_
  rintro e w6 ⟨Aj, cj, rfl, qj, b9⟩
  replace hBel := hBel.trans (b9.mono hBel.size)
  replace h0 := h0.below b9
  replace h1 := h1.below b9
  replace h2 := h2.below b9
  replace h4 := h4.below b9
  replace gi := gi.below b9
  have gj := qj.lim
  clear b9 qj
  go_wp2_with fail
  refine (DivMod_n A0 A1 xs0 xs1 c0 c1 w6 a b q r 35184372087808 h0 h1 k0 Ea.out Eb.out HZ.out Eq.out Er.out (by omega)).mono ?_
  rintro e w7 ⟨Ak, ck, Al, cl, rfl, qk, ql, b9⟩
  replace hBel := hBel.trans (b9.mono hBel.size)
  replace h0 := h0.below b9
  replace h1 := h1.below b9
  replace h2 := h2.below b9
  replace h4 := h4.below b9
  replace gi := gi.below b9
  replace gj := gj.below b9
  have gk := qk.lim
  have gl := ql.lim
  clear b9 qk ql
  go_wp2_with fail
  refine (DivMod_n A2 A4 X Y c2 c4 w7 a b q r 35184372087812 h2 h4 kX EX.out EY.out HZ.out Eq.out Er.out (by omega)).mono ?_
  rintro e w8 ⟨Am, cm, Ao, co, rfl, qm, qo, b9⟩
  replace hBel := hBel.trans (b9.mono hBel.size)
  replace h0 := h0.below b9
  replace h1 := h1.below b9
  replace h2 := h2.below b9
  replace h4 := h4.below b9
  replace gi := gi.below b9
  replace gj := gj.below b9
  replace gk := gk.below b9
  replace gl := gl.below b9
  have gm := qm.lim
  have go := qo.lim
  clear b9 qm qo
  go_wp2_with fail
  refine (awake1_c w8).mono ?_
  rintro e w9 ⟨rfl, b9⟩
  replace hBel := hBel.trans (b9.mono hBel.size)
  replace h0 := h0.below b9
  replace h1 := h1.below b9
  replace h2 := h2.below b9
  replace h4 := h4.below b9
  replace gi := gi.below b9
  replace gj := gj.below b9
  replace gk := gk.below b9
  replace gl := gl.below b9
  replace gm := gm.below b9
  replace go := go.below b9
  clear b9
  go_wp2_with fail
  refine (Add_n A0 A1 xs0 xs1 c0 c1 w9 a b s 35184372087808 35184372087808 h0 h1 k0 k1 Ea.out Eb.out Es.out (by omega) (by omega)).mono ?_
  rintro e w10 ⟨At, ct, rfl, qt, b9⟩
  replace hBel := hBel.trans (b9.mono hBel.size)
  replace h0 := h0.below b9
  replace h1 := h1.below b9
  replace h2 := h2.below b9
  replace h4 := h4.below b9
  replace gi := gi.below b9
  replace gj := gj.below b9
  replace gk := gk.below b9
  replace gl := gl.below b9
  replace gm := gm.below b9
  replace go := go.below b9
  have gt := qt.lim
  clear b9 qt
  go_wp2_with fail
  refine (Add_n A2 A4 X Y c2 c4 w10 a b s 35184372087812 35184372087812 h2 h4 kX kY EX.out EY.out Es.out (by omega) (by omega)).mono ?_
  rintro e w11 ⟨Au, cu, rfl, qu, b9⟩
  replace hBel := hBel.trans (b9.mono hBel.size)
  replace h0 := h0.below b9
  replace h1 := h1.below b9
  replace h2 := h2.below b9
  replace h4 := h4.below b9
  replace gi := gi.below b9
  replace gj := gj.below b9
  replace gk := gk.below b9
  replace gl := gl.below b9
  replace gm := gm.below b9
  replace go := go.below b9
  replace gt := gt.below b9
  have gu := qu.lim
  clear b9 qu
  go_wp2_with fail
  refine (rEq_n At Au (limbs s) (limbs s) ct cu w11 35184372087813 35184372087813 gt gu zs zs rfl (by omega) (by omega)).mono ?_
  rintro e w12 ⟨rfl, b9⟩
  replace hBel := hBel.trans (b9.mono hBel.size)
  replace h0 := h0.below b9
  replace h1 := h1.below b9
  replace h2 := h2.below b9
  replace h4 := h4.below b9
  replace gi := gi.below b9
  replace gj := gj.below b9
  replace gk := gk.below b9
  replace gl := gl.below b9
  replace gm := gm.below b9
  replace go := go.below b9
  replace gt := gt.below b9
  replace gu := gu.below b9
  clear b9
  clear gt
  clear gu
  go_wp2_with fail
  refine (rEq_n Ai Aj (limbs d) (limbs d) ci cj w12 35184372087808 35184372087808 gi gj zd zd rfl (by omega) (by omega)).mono ?_
  rintro e w13 ⟨rfl, b9⟩
  replace hBel := hBel.trans (b9.mono hBel.size)
  replace h0 := h0.below b9
  replace h1 := h1.below b9
  replace h2 := h2.below b9
  replace h4 := h4.below b9
  replace gi := gi.below b9
  replace gj := gj.below b9
  replace gk := gk.below b9
  replace gl := gl.below b9
  replace gm := gm.below b9
  replace go := go.below b9
  clear b9
  clear gi
  clear gj
  go_wp2_with fail
  refine (Mul_n A0 A1 xs0 xs1 c0 c1 w13 a b p 35184372087808 35184372087808 h0 h1 k0 k1 Ea.out Eb.out Ep.out (by omega)).mono ?_
  rintro e w14 ⟨Av, cv, rfl, qv, b9⟩
  replace hBel := hBel.trans (b9.mono hBel.size)
  replace h0 := h0.below b9
  replace h1 := h1.below b9
  replace h2 := h2.below b9
  replace h4 := h4.below b9
  replace gk := gk.below b9
  replace gl := gl.below b9
  replace gm := gm.below b9
  replace go := go.below b9
  have gv := qv.lim
  clear b9 qv
  go_wp2_with fail
  refine (Mul_v A2 A4 X Y c2 c4 w14 a b p 35184372087812 35184372087812 h2 h4 kX kY EX.out EY.out Ep.out (by omega)).mono ?_
  rintro e w15 ⟨Aww, cww, rfl, qww, b9⟩
  replace hBel := hBel.trans (b9.mono hBel.size)
  replace h0 := h0.below b9
  replace h1 := h1.below b9
  replace h2 := h2.below b9
  replace h4 := h4.below b9
  replace gk := gk.below b9
  replace gl := gl.below b9
  replace gm := gm.below b9
  replace go := go.below b9
  replace gv := gv.below b9
  have gww := qww.lim
  clear b9 qww
  go_wp2_with fail
  refine (rEq_n Av Aww (limbs p) (limbs p) cv cww w15 70368744175616 70368744175616 gv gww zp zp rfl (by omega) (by omega)).mono ?_
  rintro e w16 ⟨rfl, b9⟩
  replace hBel := hBel.trans (b9.mono hBel.size)
  replace h0 := h0.below b9
  replace h1 := h1.below b9
  replace h2 := h2.below b9
  replace h4 := h4.below b9
  replace gk := gk.below b9
  replace gl := gl.below b9
  replace gm := gm.below b9
  replace go := go.below b9
  replace gv := gv.below b9
  replace gww := gww.below b9
  clear b9
  clear gv
  clear gww
  go_wp2_with fail
  refine (rEq_n Ak Am (limbs q) (limbs q) ck cm w16 35184372087808 35184372087808 gk gm zq zq rfl (by omega) (by omega)).mono ?_
  rintro e w17 ⟨rfl, b9⟩
  replace hBel := hBel.trans (b9.mono hBel.size)
  replace h0 := h0.below b9
  replace h1 := h1.below b9
  replace h2 := h2.below b9
  replace h4 := h4.below b9
  replace gk := gk.below b9
  replace gl := gl.below b9
  replace gm := gm.below b9
  replace go := go.below b9
  clear b9
  clear gk
  clear gm
  go_wp2_with fail
  refine (rEq_n Al Ao (limbs r) (limbs r) cl co w17 35184372087808 35184372087808 gl go zr zr rfl (by omega) (by omega)).mono ?_
  rintro e w18 ⟨rfl, b9⟩
  replace hBel := hBel.trans (b9.mono hBel.size)
  replace h0 := h0.below b9
  replace h1 := h1.below b9
  replace h2 := h2.below b9
  replace h4 := h4.below b9
  replace gl := gl.below b9
  replace go := go.below b9
  clear b9
  clear gl
  clear go
  go_wp2_with fail
  refine (GCD_n A0 A1 xs0 xs1 c0 c1 w18 a b g 35184372087808 35184372087808 h0 h1 k0 k1 Ea.out Eb.out Eg.out (by omega) (by omega)).mono ?_
  rintro e w19 ⟨Ae, ce, rfl, qe, b9⟩
  replace hBel := hBel.trans (b9.mono hBel.size)
  replace h0 := h0.below b9
  replace h1 := h1.below b9
  replace h2 := h2.below b9
  replace h4 := h4.below b9
  have ge := qe.lim
  clear b9 qe
  go_wp2_with fail
  refine (GCD_n A2 A4 X Y c2 c4 w19 a b g 35184372087812 35184372087812 h2 h4 kX kY EX.out EY.out Eg.out (by omega) (by omega)).mono ?_
  rintro e w20 ⟨Af, cf, rfl, qf, b9⟩
  replace hBel := hBel.trans (b9.mono hBel.size)
  replace h0 := h0.below b9
  replace h1 := h1.below b9
  replace h2 := h2.below b9
  replace h4 := h4.below b9
  replace ge := ge.below b9
  have gf := qf.lim
  clear b9 qf
  go_wp2_with fail
  refine (rEq_n Ae Af (limbs g) (limbs g) ce cf w20 35184372087808 35184372087808 ge gf zg zg rfl (by omega) (by omega)).mono ?_
  rintro e w21 ⟨rfl, b9⟩
  replace hBel := hBel.trans (b9.mono hBel.size)
  replace h0 := h0.below b9
  replace h1 := h1.below b9
  replace h2 := h2.below b9
  replace h4 := h4.below b9
  replace ge := ge.below b9
  replace gf := gf.below b9
  clear b9
  clear ge
  clear gf
  go_wp2_with fail
  refine (Bits_n A0 xs0 c0 w21 a x 35184372087808 h0 k0 Ea.out Ex.out (by omega)).mono ?_
  rintro e w22 ⟨rfl, b9⟩
  replace hBel := hBel.trans (b9.mono hBel.size)
  replace h0 := h0.below b9
  replace h1 := h1.below b9
  replace h2 := h2.below b9
  replace h4 := h4.below b9
  clear b9
  go_wp2_with fail
  refine (Bits_n A2 X c2 w22 a x 35184372087812 h2 kX EX.out Ex.out (by omega)).mono ?_
  rintro e w23 ⟨rfl, b9⟩
  replace hBel := hBel.trans (b9.mono hBel.size)
  replace h0 := h0.below b9
  replace h1 := h1.below b9
  replace h2 := h2.below b9
  replace h4 := h4.below b9
  clear b9
  go_wp2_with fail
  refine (Compare_n A0 A1 xs0 xs1 c0 c1 w23 a b y h0 h1 Ea.out Eb.out Ey.out).mono ?_
  rintro e w24 ⟨rfl, b9⟩
  replace hBel := hBel.trans (b9.mono hBel.size)
  replace h0 := h0.below b9
  replace h1 := h1.below b9
  replace h2 := h2.below b9
  replace h4 := h4.below b9
  clear b9
  go_wp2_with fail
  refine (Compare_n A2 A4 X Y c2 c4 w24 a b y h2 h4 EX.out EY.out Ey.out).mono ?_
  rintro e w25 ⟨rfl, b9⟩
  replace hBel := hBel.trans (b9.mono hBel.size)
  replace h0 := h0.below b9
  replace h1 := h1.below b9
  replace h2 := h2.below b9
  replace h4 := h4.below b9
  clear b9
  go_wp2_with fail
  go_ret
  exact ⟨rfl, hBel⟩

set_option maxRecDepth 100000 in
set_option maxHeartbeats 4000000 in
theorem nzeros_lt (A0 : Option Addr) (xs0 : List Nat) (c0 : Nat) (A1 : Option Addr) (xs1 : List Nat) (c1 : Nat) (n : Nat) (w : World) (h0 : Lim w A0 c0 xs0) (h1 : Lim w A1 c1 xs1) (k0 : xs0.length ≤ 35184372087808) (k1 : xs1.length ≤ 35184372087808) (hc : val xs0 < val xs1) (hz : val xs1 ≠ 0) (hn : n ≤ 255) :
    Calls Try.prog 16 #[.slice A0 xs0.length c0, .slice A1 xs1.length c1, .int .u8 (n : Int)] w (RetB w true) := by
  obtain ⟨a, ea⟩ : ∃ s, val xs0 = s := ⟨_, rfl⟩
  have za : (limbs a).length ≤ 35184372087808 := by rw [← ea]; exact Nat.le_trans (limbs_length_le h0.lb) k0
  obtain ⟨b, eb⟩ : ∃ s, val xs1 = s := ⟨_, rfl⟩
  have zb : (limbs b).length ≤ 35184372087808 := by rw [← eb]; exact Nat.le_trans (limbs_length_le h1.lb) k1
  rw [ea, eb] at hc
  rw [eb] at hz
  obtain ⟨k5, e5⟩ : ∃ k, n % 5 = k := ⟨_, rfl⟩
  obtain ⟨k3, e3⟩ : ∃ k, n % 3 = k := ⟨_, rfl⟩
  have f5 : (n : Int) % 5 = (k5 : Int) := by omega
  have f5t : (n : Int).tmod 5 = (k5 : Int) := by rw [Int.tmod_eq_emod_of_nonneg (by omega)]; exact f5
  have f3 : (n : Int) % 3 = (k3 : Int) := by omega
  have f3t : (n : Int).tmod 3 = (k3 : Int) := by rw [Int.tmod_eq_emod_of_nonneg (by omega)]; exact f3
  have l5 : k5 ≤ 4 := by omega
  have l3 : k3 ≤ 4 := by omega
  clear e5 e3
  obtain ⟨s, es⟩ : ∃ s, a + b = s := ⟨_, rfl⟩
  have zs : (limbs s).length ≤ 35184372087813 := Nat.le_trans (show (limbs s).length ≤ 35184372087809 by rw [← es]; exact limbs_add_le za zb) (by omega)
  obtain ⟨p, ep⟩ : ∃ s, a * b = s := ⟨_, rfl⟩
  have zp : (limbs p).length ≤ 70368744175616 := nmul_sz za zb ep (by omega)
  obtain ⟨g, eg⟩ : ∃ s, Nat.gcd a b = s := ⟨_, rfl⟩
  have zg : (limbs g).length ≤ 35184372087808 := gcd_sz za zb eg (Nat.le_refl _)
  obtain ⟨x, ex⟩ : ∃ s, nb a = s := ⟨_, rfl⟩
  obtain ⟨y, ey⟩ : ∃ x, cmpN a b = x := ⟨_, rfl⟩
  obtain ⟨q, eq⟩ : ∃ s, a / b = s := ⟨_, rfl⟩
  have zq : (limbs q).length ≤ 35184372087808 := Nat.le_trans (limbs_mono (by rw [← eq]; exact Nat.div_le_self _ _)) za
  obtain ⟨r, er⟩ : ∃ s, a % b = s := ⟨_, rfl⟩
  have zr : (limbs r).length ≤ 35184372087808 := Nat.le_trans (limbs_mono (by rw [← er]; exact Nat.mod_le _ _)) za
  have HC := Lib.hid hc
  have HZ := Lib.hid hz
  clear hc hz
  have b0 := bel1 w (.cells (cellsOf []) 54)
  have hr0 := Row.new w []
  have Ea := Lib.hid ea
  have Eb := Lib.hid eb
  have Es := Lib.hid es
  have Ep := Lib.hid ep
  have Eg := Lib.hid eg
  have Ex := Lib.hid ex
  have Ey := Lib.hid ey
  have Eq := Lib.hid eq
  have Er := Lib.hid er
  clear ea eb es ep eg ex ey eq er
  have hBel : Below w.heap.size w w := Below.refl _ _
  go_enter Try.func16, Try.ntmps16
  go_wp2_with (first
    | (at_builtin; refine wpList_appf rfl (.tmp 19) (.tmp 20) rfl w.heap.size xs0.length c0 A0 xs0 rfl rfl rfl hr0 (h0.below b0) k0 ?_; intro g1 m1 zs1 w1 hm1 hr1 hz1 ht1 hn1 hx1 hg1 b1; have hm1' := Lib.hid hm1; clear hm1; have ht1' := Lib.hid ht1; clear ht1)
    | (at_builtin; refine wpList_appz rfl (.tmp 21) (.tmp 23) rfl g1 xs0.length m1 k5 zs1 _ rfl rfl rfl hm1'.out hr1 hz1 hn1 hx1 l5 k0 ?_; intro A2 c2 X w2 hv2 hl2 h2 b2; have hv2' := Lib.hid hv2; clear hv2; have hl2' := Lib.hid hl2; clear hl2; have b02 : Below w.heap.size w w2 := (b0.trans (b1.mono b0.size)).trans (b2.mono hg1); have b00 := bel1 w2 (.cells (cellsOf []) 54); have hr00 := Row.new w2 [])
    | (at_builtin; refine wpList_appf rfl (.tmp 25) (.tmp 26) rfl w2.heap.size xs1.length c1 A1 xs1 rfl rfl rfl hr00 ((h1.below b02).below b00) k1 ?_; intro g3 m3 zs3 w3 hm3 hr3 hz3 ht3 hn3 hx3 hg3 b3; have hm3' := Lib.hid hm3; clear hm3; have ht3' := Lib.hid ht3; clear ht3)
    | (at_builtin; refine wpList_appz rfl (.tmp 27) (.tmp 29) rfl g3 xs1.length m3 k3 zs3 _ rfl rfl rfl hm3'.out hr3 hz3 hn3 hx3 l3 k1 ?_; intro A4 c4 Y w4 hv4 hl4 h4 b4; have hv4' := Lib.hid hv4; clear hv4; have hl4' := Lib.hid hl4; clear hl4))
  have b24 : Below w2.heap.size w2 w4 := (b00.trans (b3.mono b00.size)).trans (b4.mono hg3)
  replace hBel := b02.trans (b24.mono b02.size)
  have EX : Hid (val X = a) := Lib.hid (by rw [hv2'.out, ht1'.out]; exact Ea.out)
  have EY : Hid (val Y = b) := Lib.hid (by rw [hv4'.out, ht3'.out]; exact Eb.out)
  have kX : X.length ≤ 35184372087812 := by rw [hl2'.out]; omega
  have kY : Y.length ≤ 35184372087812 := by rw [hl4'.out]; omega
  replace h0 := (h0.below b02).below b24
  replace h1 := (h1.below b02).below b24
  replace h2 := h2.below b24
  clear hv2' hl2' hv4' hl4' hm1' ht1' hm3' ht3' hr1 hr3 hz1 hz3 hr0 hr00 b0 b00 b1 b2 b3 b4 b02 b24 hn1 hx1 hg1 hn3 hx3 hg3
  go_wp2_with fail
  refine (SubN_n A0 A1 xs0 xs1 c0 c1 w4 a b h0 h1 Ea.out Eb.out HC.out).mono ?_
  rintro e w5 ⟨rfl, b9⟩
  replace hBel := hBel.trans (b9.mono hBel.size)
  replace h0 := h0.below b9
  replace h1 := h1.below b9
  replace h2 := h2.below b9
  replace h4 := h4.below b9
  clear b9
  go_wp2_with fail
  refine (SubN_n A2 A4 X Y c2 c4 w5 a b h2 h4 EX.out EY.out HC.out).mono ?_
  rintro e w6 ⟨rfl, b9⟩
  replace hBel := hBel.trans (b9.mono hBel.size)
  replace h0 := h0.below b9
  replace h1 := h1.below b9
  replace h2 := h2.below b9
  replace h4 := h4.below b9
  clear b9
  go_wp2_with fail
  refine (DivMod_n A0 A1 xs0 xs1 c0 c1 w6 a b q r 35184372087808 h0 h1 k0 Ea.out Eb.out HZ.out Eq.out Er.out (by omega)).mono ?_
  rintro e w7 ⟨Ak, ck, Al, cl, rfl, qk, ql, b9⟩
  replace hBel := hBel.trans (b9.mono hBel.size)
  replace h0 := h0.below b9
  replace h1 := h1.below b9
  replace h2 := h2.below b9
  replace h4 := h4.below b9
  have gk := qk.lim
  have gl := ql.lim
  clear b9 qk ql
  go_wp2_with fail
  refine (DivMod_n A2 A4 X Y c2 c4 w7 a b q r 35184372087812 h2 h4 kX EX.out EY.out HZ.out Eq.out Er.out (by omega)).mono ?_
  rintro e w8 ⟨Am, cm, Ao, co, rfl, qm, qo, b9⟩
  replace hBel := hBel.trans (b9.mono hBel.size)
  replace h0 := h0.below b9
  replace h1 := h1.below b9
  replace h2 := h2.below b9
  replace h4 := h4.below b9
  replace gk := gk.below b9
  replace gl := gl.below b9
  have gm := qm.lim
  have go := qo.lim
  clear b9 qm qo
  go_wp2_with fail
  refine (awake1_c w8).mono ?_
  rintro e w9 ⟨rfl, b9⟩
  replace hBel := hBel.trans (b9.mono hBel.size)
  replace h0 := h0.below b9
  replace h1 := h1.below b9
  replace h2 := h2.below b9
  replace h4 := h4.below b9
  replace gk := gk.below b9
  replace gl := gl.below b9
  replace gm := gm.below b9
  replace go := go.below b9
  clear b9
  go_wp2_with fail
  refine (Add_n A0 A1 xs0 xs1 c0 c1 w9 a b s 35184372087808 35184372087808 h0 h1 k0 k1 Ea.out Eb.out Es.out (by omega) (by omega)).mono ?_
  rintro e w10 ⟨At, ct, rfl, qt, b9⟩
  replace hBel := hBel.trans (b9.mono hBel.size)
  replace h0 := h0.below b9
  replace h1 := h1.below b9
  replace h2 := h2.below b9
  replace h4 := h4.below b9
  replace gk := gk.below b9
  replace gl := gl.below b9
  replace gm := gm.below b9
  replace go := go.below b9
  have gt := qt.lim
  clear b9 qt
  go_wp2_with fail
  refine (Add_n A2 A4 X Y c2 c4 w10 a b s 35184372087812 35184372087812 h2 h4 kX kY EX.out EY.out Es.out (by omega) (by omega)).mono ?_
  rintro e w11 ⟨Au, cu, rfl, qu, b9⟩
  replace hBel := hBel.trans (b9.mono hBel.size)
  replace h0 := h0.below b9
  replace h1 := h1.below b9
  replace h2 := h2.below b9
  replace h4 := h4.below b9
  replace gk := gk.below b9
  replace gl := gl.below b9
  replace gm := gm.below b9
  replace go := go.below b9
  replace gt := gt.below b9
  have gu := qu.lim
  clear b9 qu
  go_wp2_with fail
  refine (rEq_n At Au (limbs s) (limbs s) ct cu w11 35184372087813 35184372087813 gt gu zs zs rfl (by omega) (by omega)).mono ?_
  rintro e w12 ⟨rfl, b9⟩
  replace hBel := hBel.trans (b9.mono hBel.size)
  replace h0 := h0.below b9
  replace h1 := h1.below b9
  replace h2 := h2.below b9
  replace h4 := h4.below b9
  replace gk := gk.below b9
  replace gl := gl.below b9
  replace gm := gm.below b9
  replace go := go.below b9
  replace gt := gt.below b9
  replace gu := gu.below b9
  clear b9
  clear gt
  clear gu
  go_wp2_with fail
  refine (rEq_n none none [] [] 0 0 w12 0 0 (Lim.nil _ _) (Lim.nil _ _) (Nat.le_refl 0) (Nat.le_refl 0) rfl (by omega) (by omega)).mono ?_
  rintro e w13 ⟨rfl, b9⟩
  replace hBel := hBel.trans (b9.mono hBel.size)
  replace h0 := h0.below b9
  replace h1 := h1.below b9
  replace h2 := h2.below b9
  replace h4 := h4.below b9
  replace gk := gk.below b9
  replace gl := gl.below b9
  replace gm := gm.below b9
  replace go := go.below b9
  clear b9
  go_wp2_with fail
  refine (Mul_n A0 A1 xs0 xs1 c0 c1 w13 a b p 35184372087808 35184372087808 h0 h1 k0 k1 Ea.out Eb.out Ep.out (by omega)).mono ?_
  rintro e w14 ⟨Av, cv, rfl, qv, b9⟩
  replace hBel := hBel.trans (b9.mono hBel.size)
  replace h0 := h0.below b9
  replace h1 := h1.below b9
  replace h2 := h2.below b9
  replace h4 := h4.below b9
  replace gk := gk.below b9
  replace gl := gl.below b9
  replace gm := gm.below b9
  replace go := go.below b9
  have gv := qv.lim
  clear b9 qv
  go_wp2_with fail
  refine (Mul_v A2 A4 X Y c2 c4 w14 a b p 35184372087812 35184372087812 h2 h4 kX kY EX.out EY.out Ep.out (by omega)).mono ?_
  rintro e w15 ⟨Aww, cww, rfl, qww, b9⟩
  replace hBel := hBel.trans (b9.mono hBel.size)
  replace h0 := h0.below b9
  replace h1 := h1.below b9
  replace h2 := h2.below b9
  replace h4 := h4.below b9
  replace gk := gk.below b9
  replace gl := gl.below b9
  replace gm := gm.below b9
  replace go := go.below b9
  replace gv := gv.below b9
  have gww := qww.lim
  clear b9 qww
  go_wp2_with fail
  refine (rEq_n Av Aww (limbs p) (limbs p) cv cww w15 70368744175616 70368744175616 gv gww zp zp rfl (by omega) (by omega)).mono ?_
  rintro e w16 ⟨rfl, b9⟩
  replace hBel := hBel.trans (b9.mono hBel.size)
  replace h0 := h0.below b9
  replace h1 := h1.below b9
  replace h2 := h2.below b9
  replace h4 := h4.below b9
  replace gk := gk.below b9
  replace gl := gl.below b9
  replace gm := gm.below b9
  replace go := go.below b9
  replace gv := gv.below b9
  replace gww := gww.below b9
  clear b9
  clear gv
  clear gww
  go_wp2_with fail
  refine (rEq_n Ak Am (limbs q) (limbs q) ck cm w16 35184372087808 35184372087808 gk gm zq zq rfl (by omega) (by omega)).mono ?_
  rintro e w17 ⟨rfl, b9⟩
  replace hBel := hBel.trans (b9.mono hBel.size)
  replace h0 := h0.below b9
  replace h1 := h1.below b9
  replace h2 := h2.below b9
  replace h4 := h4.below b9
  replace gk := gk.below b9
  replace gl := gl.below b9
  replace gm := gm.below b9
  replace go := go.below b9
  clear b9
  clear gk
  clear gm
  go_wp2_with fail
  refine (rEq_n Al Ao (limbs r) (limbs r) cl co w17 35184372087808 35184372087808 gl go zr zr rfl (by omega) (by omega)).mono ?_
  rintro e w18 ⟨rfl, b9⟩
  replace hBel := hBel.trans (b9.mono hBel.size)
  replace h0 := h0.below b9
  replace h1 := h1.below b9
  replace h2 := h2.below b9
  replace h4 := h4.below b9
  replace gl := gl.below b9
  replace go := go.below b9
  clear b9
  clear gl
  clear go
  go_wp2_with fail
  refine (GCD_n A0 A1 xs0 xs1 c0 c1 w18 a b g 35184372087808 35184372087808 h0 h1 k0 k1 Ea.out Eb.out Eg.out (by omega) (by omega)).mono ?_
  rintro e w19 ⟨Ae, ce, rfl, qe, b9⟩
  replace hBel := hBel.trans (b9.mono hBel.size)
  replace h0 := h0.below b9
  replace h1 := h1.below b9
  replace h2 := h2.below b9
  replace h4 := h4.below b9
  have ge := qe.lim
  clear b9 qe
  go_wp2_with fail
  refine (GCD_n A2 A4 X Y c2 c4 w19 a b g 35184372087812 35184372087812 h2 h4 kX kY EX.out EY.out Eg.out (by omega) (by omega)).mono ?_
  rintro e w20 ⟨Af, cf, rfl, qf, b9⟩
  replace hBel := hBel.trans (b9.mono hBel.size)
  replace h0 := h0.below b9
  replace h1 := h1.below b9
  replace h2 := h2.below b9
  replace h4 := h4.below b9
  replace ge := ge.below b9
  have gf := qf.lim
  clear b9 qf
  go_wp2_with fail
  refine (rEq_n Ae Af (limbs g) (limbs g) ce cf w20 35184372087808 35184372087808 ge gf zg zg rfl (by omega) (by omega)).mono ?_
  rintro e w21 ⟨rfl, b9⟩
  replace hBel := hBel.trans (b9.mono hBel.size)
  replace h0 := h0.below b9
  replace h1 := h1.below b9
  replace h2 := h2.below b9
  replace h4 := h4.below b9
  replace ge := ge.below b9
  replace gf := gf.below b9
  clear b9
  clear ge
  clear gf
  go_wp2_with fail
  refine (Bits_n A0 xs0 c0 w21 a x 35184372087808 h0 k0 Ea.out Ex.out (by omega)).mono ?_
  rintro e w22 ⟨rfl, b9⟩
  replace hBel := hBel.trans (b9.mono hBel.size)
  replace h0 := h0.below b9
  replace h1 := h1.below b9
  replace h2 := h2.below b9
  replace h4 := h4.below b9
  clear b9
  go_wp2_with fail
  refine (Bits_n A2 X c2 w22 a x 35184372087812 h2 kX EX.out Ex.out (by omega)).mono ?_
  rintro e w23 ⟨rfl, b9⟩
  replace hBel := hBel.trans (b9.mono hBel.size)
  replace h0 := h0.below b9
  replace h1 := h1.below b9
  replace h2 := h2.below b9
  replace h4 := h4.below b9
  clear b9
  go_wp2_with fail
  refine (Compare_n A0 A1 xs0 xs1 c0 c1 w23 a b y h0 h1 Ea.out Eb.out Ey.out).mono ?_
  rintro e w24 ⟨rfl, b9⟩
  replace hBel := hBel.trans (b9.mono hBel.size)
  replace h0 := h0.below b9
  replace h1 := h1.below b9
  replace h2 := h2.below b9
  replace h4 := h4.below b9
  clear b9
  go_wp2_with fail
  refine (Compare_n A2 A4 X Y c2 c4 w24 a b y h2 h4 EX.out EY.out Ey.out).mono ?_
  rintro e w25 ⟨rfl, b9⟩
  replace hBel := hBel.trans (b9.mono hBel.size)
  replace h0 := h0.below b9
  replace h1 := h1.below b9
  replace h2 := h2.below b9
  replace h4 := h4.below b9
  clear b9
  go_wp2_with fail
  go_ret
  exact ⟨rfl, hBel⟩

theorem nzeros_walk (A0 : Option Addr) (xs0 : List Nat) (c0 : Nat) (A1 : Option Addr) (xs1 : List Nat) (c1 : Nat) (v : Int) (w : World) (h0 : Lim w A0 c0 xs0) (h1 : Lim w A1 c1 xs1) (k0 : xs0.length ≤ 35184372087808) (k1 : xs1.length ≤ 35184372087808) (wv : (Lit.int .u8 v).wf = true) :
    Calls Try.prog 16 #[.slice A0 xs0.length c0, .slice A1 xs1.length c1, .int .u8 v] w (RetB w true) := by
  obtain ⟨v1, v2⟩ := bounds_u8 wv
  obtain ⟨n, rfl⟩ := Int.eq_ofNat_of_zero_le v1
  have hn : n ≤ 255 := by omega
  rcases Nat.lt_or_ge (val xs0) (val xs1) with h | h
  · exact nzeros_lt A0 xs0 c0 A1 xs1 c1 n w h0 h1 k0 k1 h (by omega) hn
  · by_cases hz : val xs1 = 0
    · exact nzeros_ge0 A0 xs0 c0 A1 xs1 c1 n w h0 h1 k0 k1 h hz hn
    · exact nzeros_ge A0 xs0 c0 A1 xs1 c1 n w h0 h1 k0 k1 h hz hn
end Go.Proofs.Ytkoehkadhjjmoaa
