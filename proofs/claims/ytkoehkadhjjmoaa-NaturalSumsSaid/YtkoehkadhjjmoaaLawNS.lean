/- The walk of the statement NaturalSums: it returns true. -/
import Derived.Test.YtkoehkadhjjmoaaNatO
namespace Go.Proofs.Ytkoehkadhjjmoaa
open Go.RowKit Gm

set_option maxRecDepth 100000 in
set_option maxHeartbeats 4000000 in
theorem nsums_ge (A0 : Option Addr) (xs0 : List Nat) (c0 : Nat) (A1 : Option Addr) (xs1 : List Nat) (c1 : Nat) (w : World) (h0 : Lim w A0 c0 xs0) (h1 : Lim w A1 c1 xs1) (k0 : xs0.length ≤ 35184372087808) (k1 : xs1.length ≤ 35184372087808) (hc : val xs1 ≤ val xs0) :
    Calls Try.prog 8 #[.slice A0 xs0.length c0, .slice A1 xs1.length c1] w (RetB w true) := by
  obtain ⟨a, ea⟩ : ∃ s, val xs0 = s := ⟨_, rfl⟩
  have za : (limbs a).length ≤ 35184372087808 := by rw [← ea]; exact Nat.le_trans (limbs_length_le h0.lb) k0
  obtain ⟨b, eb⟩ : ∃ s, val xs1 = s := ⟨_, rfl⟩
  have zb : (limbs b).length ≤ 35184372087808 := by rw [← eb]; exact Nat.le_trans (limbs_length_le h1.lb) k1
  rw [ea, eb] at hc
  obtain ⟨s, es⟩ : ∃ s, a + b = s := ⟨_, rfl⟩
  have zs : (limbs s).length ≤ 35184372087809 := by rw [← es]; exact limbs_add_le za zb
  obtain ⟨d, ed⟩ : ∃ s, a - b = s := ⟨_, rfl⟩
  have zd : (limbs d).length ≤ 35184372087808 := Nat.le_trans (limbs_mono (by omega)) za
  obtain ⟨x, ex⟩ : ∃ x, cmpN a b = x := ⟨_, rfl⟩
  have hx : 0 ≤ x := by rw [← ex]; exact cmpN_nonneg hc
  have HC := Lib.hid hc
  clear hc
  have Ea := Lib.hid ea
  have Eb := Lib.hid eb
  have Es := Lib.hid es
  have Ed := Lib.hid ed
  have Ex := Lib.hid ex
  clear ea eb es ed ex
  have hBel : Below w.heap.size w w := Below.refl _ _
  go_enter Try.func8, Try.ntmps8
  go_wp2_with fail
  refine (SubY_n A0 A1 xs0 xs1 c0 c1 w a b d 35184372087808 h0 h1 k0 Ea.out Eb.out HC.out Ed.out (by omega)).mono ?_
  rintro e w1 ⟨Ap, cp, rfl, qp, b9⟩
  replace hBel := hBel.trans (b9.mono hBel.size)
  replace h0 := h0.below b9
  replace h1 := h1.below b9
  have gp := qp.lim
  clear b9 qp
  go_wp2_with fail
  refine (rSubY_n A0 A1 xs0 xs1 c0 c1 w1 a b d 35184372087808 35184372087808 h0 h1 k0 k1 Ea.out Eb.out HC.out Ed.out (by omega) (by omega)).mono ?_
  rintro e w2 ⟨Aq, cq, rfl, qq, b9⟩
  replace hBel := hBel.trans (b9.mono hBel.size)
  replace h0 := h0.below b9
  replace h1 := h1.below b9
  replace gp := gp.below b9
  have gq := qq.lim
  clear b9 qq
  go_wp2_with fail
  refine (awake1_c w2).mono ?_
  rintro e w3 ⟨rfl, b9⟩
  replace hBel := hBel.trans (b9.mono hBel.size)
  replace h0 := h0.below b9
  replace h1 := h1.below b9
  replace gp := gp.below b9
  replace gq := gq.below b9
  clear b9
  go_wp2_with fail
  refine (Add_n A0 A1 xs0 xs1 c0 c1 w3 a b s 35184372087808 35184372087808 h0 h1 k0 k1 Ea.out Eb.out Es.out (by omega) (by omega)).mono ?_
  rintro e w4 ⟨At, ct, rfl, qt, b9⟩
  replace hBel := hBel.trans (b9.mono hBel.size)
  replace h0 := h0.below b9
  replace h1 := h1.below b9
  replace gp := gp.below b9
  replace gq := gq.below b9
  have gt := qt.lim
  clear b9 qt
  go_wp2_with fail
  refine (rAdd_n A0 A1 xs0 xs1 c0 c1 w4 a b s 35184372087808 35184372087808 h0 h1 k0 k1 Ea.out Eb.out Es.out (by omega) (by omega)).mono ?_
  rintro e w5 ⟨Au, cu, rfl, qu, b9⟩
  replace hBel := hBel.trans (b9.mono hBel.size)
  replace h0 := h0.below b9
  replace h1 := h1.below b9
  replace gp := gp.below b9
  replace gq := gq.below b9
  replace gt := gt.below b9
  have gu := qu.lim
  clear b9 qu
  go_wp2_with fail
  refine (rEq_n At Au (limbs s) (limbs s) ct cu w5 35184372087809 35184372087809 gt gu zs zs rfl (by omega) (by omega)).mono ?_
  rintro e w6 ⟨rfl, b9⟩
  replace hBel := hBel.trans (b9.mono hBel.size)
  replace h0 := h0.below b9
  replace h1 := h1.below b9
  replace gp := gp.below b9
  replace gq := gq.below b9
  replace gt := gt.below b9
  replace gu := gu.below b9
  clear b9
  clear gt
  clear gu
  go_wp2_with fail
  refine (rEq_n Ap Aq (limbs d) (limbs d) cp cq w6 35184372087808 35184372087808 gp gq zd zd rfl (by omega) (by omega)).mono ?_
  rintro e w7 ⟨rfl, b9⟩
  replace hBel := hBel.trans (b9.mono hBel.size)
  replace h0 := h0.below b9
  replace h1 := h1.below b9
  replace gp := gp.below b9
  replace gq := gq.below b9
  clear b9
  clear gp
  clear gq
  go_wp2_with fail
  refine (rCompare_n A0 A1 xs0 xs1 c0 c1 w7 a b 35184372087808 35184372087808 x h0 h1 k0 k1 Ea.out Eb.out Ex.out (by omega) (by omega)).mono ?_
  rintro e w8 ⟨rfl, b9⟩
  replace hBel := hBel.trans (b9.mono hBel.size)
  replace h0 := h0.below b9
  replace h1 := h1.below b9
  clear b9
  go_wp2_with fail
  go_ret
  exact ⟨rfl, hBel⟩

set_option maxRecDepth 100000 in
set_option maxHeartbeats 4000000 in
theorem nsums_lt (A0 : Option Addr) (xs0 : List Nat) (c0 : Nat) (A1 : Option Addr) (xs1 : List Nat) (c1 : Nat) (w : World) (h0 : Lim w A0 c0 xs0) (h1 : Lim w A1 c1 xs1) (k0 : xs0.length ≤ 35184372087808) (k1 : xs1.length ≤ 35184372087808) (hc : val xs0 < val xs1) :
    Calls Try.prog 8 #[.slice A0 xs0.length c0, .slice A1 xs1.length c1] w (RetB w true) := by
  obtain ⟨a, ea⟩ : ∃ s, val xs0 = s := ⟨_, rfl⟩
  have za : (limbs a).length ≤ 35184372087808 := by rw [← ea]; exact Nat.le_trans (limbs_length_le h0.lb) k0
  obtain ⟨b, eb⟩ : ∃ s, val xs1 = s := ⟨_, rfl⟩
  have zb : (limbs b).length ≤ 35184372087808 := by rw [← eb]; exact Nat.le_trans (limbs_length_le h1.lb) k1
  rw [ea, eb] at hc
  obtain ⟨s, es⟩ : ∃ s, a + b = s := ⟨_, rfl⟩
  have zs : (limbs s).length ≤ 35184372087809 := by rw [← es]; exact limbs_add_le za zb
  obtain ⟨x, ex⟩ : ∃ x, cmpN a b = x := ⟨_, rfl⟩
  have hx : decide (0 ≤ x) = false := by rw [← ex, cmpN_lt hc]; rfl
  have HC := Lib.hid hc
  clear hc
  have Ea := Lib.hid ea
  have Eb := Lib.hid eb
  have Es := Lib.hid es
  have Ex := Lib.hid ex
  clear ea eb es ex
  have hBel : Below w.heap.size w w := Below.refl _ _
  go_enter Try.func8, Try.ntmps8
  go_wp2_with fail
  refine (SubN_n A0 A1 xs0 xs1 c0 c1 w a b h0 h1 Ea.out Eb.out HC.out).mono ?_
  rintro e w1 ⟨rfl, b9⟩
  replace hBel := hBel.trans (b9.mono hBel.size)
  replace h0 := h0.below b9
  replace h1 := h1.below b9
  clear b9
  go_wp2_with fail
  refine (rSubN_n A0 A1 xs0 xs1 c0 c1 w1 a b 35184372087808 35184372087808 h0 h1 k0 k1 Ea.out Eb.out HC.out (by omega) (by omega)).mono ?_
  rintro e w2 ⟨rfl, b9⟩
  replace hBel := hBel.trans (b9.mono hBel.size)
  replace h0 := h0.below b9
  replace h1 := h1.below b9
  clear b9
  go_wp2_with fail
  refine (awake1_c w2).mono ?_
  rintro e w3 ⟨rfl, b9⟩
  replace hBel := hBel.trans (b9.mono hBel.size)
  replace h0 := h0.below b9
  replace h1 := h1.below b9
  clear b9
  go_wp2_with fail
  refine (Add_n A0 A1 xs0 xs1 c0 c1 w3 a b s 35184372087808 35184372087808 h0 h1 k0 k1 Ea.out Eb.out Es.out (by omega) (by omega)).mono ?_
  rintro e w4 ⟨At, ct, rfl, qt, b9⟩
  replace hBel := hBel.trans (b9.mono hBel.size)
  replace h0 := h0.below b9
  replace h1 := h1.below b9
  have gt := qt.lim
  clear b9 qt
  go_wp2_with fail
  refine (rAdd_n A0 A1 xs0 xs1 c0 c1 w4 a b s 35184372087808 35184372087808 h0 h1 k0 k1 Ea.out Eb.out Es.out (by omega) (by omega)).mono ?_
  rintro e w5 ⟨Au, cu, rfl, qu, b9⟩
  replace hBel := hBel.trans (b9.mono hBel.size)
  replace h0 := h0.below b9
  replace h1 := h1.below b9
  replace gt := gt.below b9
  have gu := qu.lim
  clear b9 qu
  go_wp2_with fail
  refine (rEq_n At Au (limbs s) (limbs s) ct cu w5 35184372087809 35184372087809 gt gu zs zs rfl (by omega) (by omega)).mono ?_
  rintro e w6 ⟨rfl, b9⟩
  replace hBel := hBel.trans (b9.mono hBel.size)
  replace h0 := h0.below b9
  replace h1 := h1.below b9
  replace gt := gt.below b9
  replace gu := gu.below b9
  clear b9
  clear gt
  clear gu
  go_wp2_with fail
  refine (rEq_n none none [] [] 0 0 w6 0 0 (Lim.nil _ _) (Lim.nil _ _) (Nat.le_refl 0) (Nat.le_refl 0) rfl (by omega) (by omega)).mono ?_
  rintro e w7 ⟨rfl, b9⟩
  replace hBel := hBel.trans (b9.mono hBel.size)
  replace h0 := h0.below b9
  replace h1 := h1.below b9
  clear b9
  go_wp2_with fail
  refine (rCompare_n A0 A1 xs0 xs1 c0 c1 w7 a b 35184372087808 35184372087808 x h0 h1 k0 k1 Ea.out Eb.out Ex.out (by omega) (by omega)).mono ?_
  rintro e w8 ⟨rfl, b9⟩
  replace hBel := hBel.trans (b9.mono hBel.size)
  replace h0 := h0.below b9
  replace h1 := h1.below b9
  clear b9
  go_wp2_with fail
  go_ret
  exact ⟨rfl, hBel⟩

theorem nsums_walk (A0 : Option Addr) (xs0 : List Nat) (c0 : Nat) (A1 : Option Addr) (xs1 : List Nat) (c1 : Nat) (w : World) (h0 : Lim w A0 c0 xs0) (h1 : Lim w A1 c1 xs1) (k0 : xs0.length ≤ 35184372087808) (k1 : xs1.length ≤ 35184372087808) :
    Calls Try.prog 8 #[.slice A0 xs0.length c0, .slice A1 xs1.length c1] w (RetB w true) := by
  rcases Nat.lt_or_ge (val xs0) (val xs1) with h | h
  · exact nsums_lt A0 xs0 c0 A1 xs1 c1 w h0 h1 k0 k1 h
  · exact nsums_ge A0 xs0 c0 A1 xs1 c1 w h0 h1 k0 k1 h
end Go.Proofs.Ytkoehkadhjjmoaa
