/- The walk of the statement NaturalScaling: it returns true. -/
import Derived.Test.YtkoehkadhjjmoaaNatQ
import Derived.Test.YtkoehkadhjjmoaaOpen
namespace Go.Proofs.Ytkoehkadhjjmoaa
open Go.RowKit Gm

set_option maxRecDepth 100000 in
set_option maxHeartbeats 4000000 in
theorem nscaling1 (A0 : Option Addr) (xs0 : List Nat) (c0 : Nat) (n : Nat) (w : World) (h0 : Lim w A0 c0 xs0) (k0 : xs0.length ≤ 35184372087808) (hn : n ≤ 255) :
    Calls Try.prog 19 #[.slice A0 xs0.length c0, .int .u8 (n : Int)] w (RetB w true) := by
  obtain ⟨a, ea⟩ : ∃ s, val xs0 = s := ⟨_, rfl⟩
  have za : (limbs a).length ≤ 35184372087808 := by rw [← ea]; exact Nat.le_trans (limbs_length_le h0.lb) k0
  obtain ⟨p, ep⟩ : ∃ s, 1 * 2 ^ n = s := ⟨_, rfl⟩
  have zp : (limbs p).length ≤ 9 := shl_sz (k := 1) (by rw [limbs_lit' [1] (by decide) (by decide)]; exact Nat.le_refl _) ep hn
  obtain ⟨x, ex⟩ : ∃ s, a * 2 ^ n = s := ⟨_, rfl⟩
  have zx : (limbs x).length ≤ 35184372087816 := shl_sz za ex hn
  have ey : x / 2 ^ n = a := by rw [← ex, Nat.mul_div_cancel _ (Nat.pow_pos (by decide))]
  have eb : nb p = n + 1 := by rw [← ep, Nat.one_mul, nb_pow]
  have em : a * p = x := by rw [← ep, ← ex, Nat.one_mul]
  have Ea := Lib.hid ea
  have Ep := Lib.hid ep
  have Ex := Lib.hid ex
  have Ey := Lib.hid ey
  have Eb := Lib.hid eb
  have Em := Lib.hid em
  clear ea ep ex ey eb em
  have hBel : Below w.heap.size w w := Below.refl _ _
  go_enter Try.func19, Try.ntmps19
  go_wp2_with fail
  have b9 := bel1 w (.cells (cellsOf [1]) 54)
  have go := lit1 w [1] (Lb_lit _ (by decide)) (by decide)
  obtain ⟨w1, eW⟩ : ∃ W, w.alloc (.cells (cellsOf [1]) 54) = W := ⟨_, rfl⟩
  rw [eW] at b9 go
  erw [eW]
  clear eW
  replace hBel := hBel.trans (b9.mono hBel.size)
  replace h0 := h0.below b9
  clear b9
  go_wp2_with fail
  refine (ShiftLeft_n (some ⟨w.heap.size, 0, none⟩) [1] 1 w1 1 p n 1 go (by decide) (by decide) Ep.out (by omega) (by omega)).mono ?_
  rintro e w2 ⟨Af, cf, rfl, qf, b9⟩
  replace hBel := hBel.trans (b9.mono hBel.size)
  replace h0 := h0.below b9
  replace go := go.below b9
  have gf := qf.lim
  clear b9 qf
  clear go
  go_wp2_with fail
  refine (ShiftLeft_n A0 xs0 c0 w2 a x n 35184372087808 h0 k0 Ea.out Ex.out (by omega) (by omega)).mono ?_
  rintro e w3 ⟨Ag, cg, rfl, qg, b9⟩
  replace hBel := hBel.trans (b9.mono hBel.size)
  replace h0 := h0.below b9
  replace gf := gf.below b9
  have gg := qg.lim
  clear b9 qg
  go_wp2_with fail
  refine (ShiftRight_n Ag (limbs x) cg w3 x a n 35184372087816 gg zx (val_limbs x) Ey.out (by omega) (by omega)).mono ?_
  rintro e w4 ⟨Ah, ch, rfl, qh, b9⟩
  replace hBel := hBel.trans (b9.mono hBel.size)
  replace h0 := h0.below b9
  replace gf := gf.below b9
  replace gg := gg.below b9
  have gh := qh.lim
  clear b9 qh
  go_wp2_with fail
  refine (awake1_c w4).mono ?_
  rintro e w5 ⟨rfl, b9⟩
  replace hBel := hBel.trans (b9.mono hBel.size)
  replace h0 := h0.below b9
  replace gf := gf.below b9
  replace gg := gg.below b9
  replace gh := gh.below b9
  clear b9
  go_wp2_with fail
  refine (Bits_n Af (limbs p) cf w5 p (n + 1) 9 gf zp (val_limbs p) Eb.out (by omega)).mono ?_
  rintro e w6 ⟨rfl, b9⟩
  replace hBel := hBel.trans (b9.mono hBel.size)
  replace h0 := h0.below b9
  replace gf := gf.below b9
  replace gg := gg.below b9
  replace gh := gh.below b9
  clear b9
  go_wp2_with fail
  refine (Mul_n A0 Af xs0 (limbs p) c0 cf w6 a p x 35184372087808 9 h0 gf k0 zp Ea.out (val_limbs p) Em.out (by omega)).mono ?_
  rintro e w7 ⟨Ai, ci, rfl, qi, b9⟩
  replace hBel := hBel.trans (b9.mono hBel.size)
  replace h0 := h0.below b9
  replace gf := gf.below b9
  replace gg := gg.below b9
  replace gh := gh.below b9
  have gi := qi.lim
  clear b9 qi
  go_wp2_with fail
  refine (rEq_n Ag Ai (limbs x) (limbs x) cg ci w7 35184372087816 35184372087816 gg gi zx zx rfl (by omega) (by omega)).mono ?_
  rintro e w8 ⟨rfl, b9⟩
  replace hBel := hBel.trans (b9.mono hBel.size)
  replace h0 := h0.below b9
  replace gf := gf.below b9
  replace gg := gg.below b9
  replace gh := gh.below b9
  replace gi := gi.below b9
  clear b9
  clear gg
  clear gi
  go_wp2_with fail
  refine (rTrim_n A0 xs0 c0 w8 a 35184372087808 h0 k0 Ea.out (by omega)).mono ?_
  rintro e w9 ⟨Aj, cj, rfl, qj, b9⟩
  replace hBel := hBel.trans (b9.mono hBel.size)
  replace h0 := h0.below b9
  replace gf := gf.below b9
  replace gh := gh.below b9
  have gj := qj.lim
  clear b9 qj
  go_wp2_with fail
  refine (rEq_n Ah Aj (limbs a) (limbs a) ch cj w9 35184372087808 35184372087808 gh gj za za rfl (by omega) (by omega)).mono ?_
  rintro e w10 ⟨rfl, b9⟩
  replace hBel := hBel.trans (b9.mono hBel.size)
  replace h0 := h0.below b9
  replace gf := gf.below b9
  replace gh := gh.below b9
  replace gj := gj.below b9
  clear b9
  clear gh
  clear gj
  go_wp2_with fail
  go_ret
  exact ⟨rfl, hBel⟩

theorem nscaling_walk (A0 : Option Addr) (xs0 : List Nat) (c0 : Nat) (v : Int) (w : World) (h0 : Lim w A0 c0 xs0) (k0 : xs0.length ≤ 35184372087808) (wv : (Lit.int .u8 v).wf = true) :
    Calls Try.prog 19 #[.slice A0 xs0.length c0, .int .u8 v] w (RetB w true) := by
  obtain ⟨v1, v2⟩ := bounds_u8 wv
  obtain ⟨n, rfl⟩ := Int.eq_ofNat_of_zero_le v1
  exact nscaling1 A0 xs0 c0 n w h0 k0 (by omega)
end Go.Proofs.Ytkoehkadhjjmoaa
