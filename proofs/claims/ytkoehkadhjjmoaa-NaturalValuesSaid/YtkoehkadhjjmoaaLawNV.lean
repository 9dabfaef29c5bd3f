/- The walk of the statement NaturalValues: it returns true. -/
import Derived.Test.YtkoehkadhjjmoaaNatP
import Derived.Test.YtkoehkadhjjmoaaOpen
namespace Go.Proofs.Ytkoehkadhjjmoaa
open Go.RowKit Gm

set_option maxRecDepth 100000 in
set_option maxHeartbeats 4000000 in
theorem nvalues_sm (A0 : Option Addr) (xs0 : List Nat) (c0 : Nat) (A1 : Option Addr) (xs1 : List Nat) (c1 : Nat) (v : Nat) (w : World) (h0 : Lim w A0 c0 xs0) (h1 : Lim w A1 c1 xs1) (k0 : xs0.length ≤ 35184372087808) (k1 : xs1.length ≤ 35184372087808) (hc : val xs0 < Ba * Ba) (hv : v < Ba * Ba) :
    Calls Try.prog 12 #[.slice A0 xs0.length c0, .slice A1 xs1.length c1, .int .u64 (v : Int)] w (RetB w true) := by
  obtain ⟨a, ea⟩ : ∃ s, val xs0 = s := ⟨_, rfl⟩
  have za : (limbs a).length ≤ 35184372087808 := by rw [← ea]; exact Nat.le_trans (limbs_length_le h0.lb) k0
  obtain ⟨b, eb⟩ : ∃ s, val xs1 = s := ⟨_, rfl⟩
  have zb : (limbs b).length ≤ 35184372087808 := by rw [← eb]; exact Nat.le_trans (limbs_length_le h1.lb) k1
  rw [ea] at hc
  have HC := Lib.hid hc
  have HV := Lib.hid hv
  clear hc hv
  have zv : (limbs v).length ≤ 2 := limbs_len2 HV.out
  obtain ⟨x, ex⟩ : ∃ x, cmpN a b = x := ⟨_, rfl⟩
  have Ea := Lib.hid ea
  have Eb := Lib.hid eb
  have Ex := Lib.hid ex
  clear ea eb ex
  have hBel : Below w.heap.size w w := Below.refl _ _
  go_enter Try.func12, Try.ntmps12
  go_wp2_with fail
  refine (U64Y_n A0 xs0 c0 w a h0 Ea.out HC.out).mono ?_
  rintro e w1 ⟨rfl, b9⟩
  replace hBel := hBel.trans (b9.mono hBel.size)
  replace h0 := h0.below b9
  replace h1 := h1.below b9
  clear b9
  go_wp2_with fail
  refine (rU64Y_n A0 xs0 c0 w1 a 35184372087808 h0 k0 Ea.out HC.out (by omega)).mono ?_
  rintro e w2 ⟨rfl, b9⟩
  replace hBel := hBel.trans (b9.mono hBel.size)
  replace h0 := h0.below b9
  replace h1 := h1.below b9
  clear b9
  go_wp2_with fail
  refine (FromUint64_c v w2 HV.out).mono ?_
  rintro e w3 ⟨Af, cf, rfl, qf, b9⟩
  replace hBel := hBel.trans (b9.mono hBel.size)
  replace h0 := h0.below b9
  replace h1 := h1.below b9
  have gf := qf.lim
  clear b9 qf
  go_wp2_with fail
  refine (U64Y_n Af (limbs v) cf w3 v gf (val_limbs v) HV.out).mono ?_
  rintro e w4 ⟨rfl, b9⟩
  replace hBel := hBel.trans (b9.mono hBel.size)
  replace h0 := h0.below b9
  replace h1 := h1.below b9
  replace gf := gf.below b9
  clear b9
  clear gf
  go_wp2_with fail
  refine (awake1_c w4).mono ?_
  rintro e w5 ⟨rfl, b9⟩
  replace hBel := hBel.trans (b9.mono hBel.size)
  replace h0 := h0.below b9
  replace h1 := h1.below b9
  clear b9
  go_wp2_with fail
  refine (Trim_n A0 xs0 c0 w5 a 35184372087808 h0 k0 Ea.out (by omega)).mono ?_
  rintro e w6 ⟨Ai, ci, rfl, qi, b9⟩
  replace hBel := hBel.trans (b9.mono hBel.size)
  replace h0 := h0.below b9
  replace h1 := h1.below b9
  have gi := qi.lim
  clear b9 qi
  go_wp2_with fail
  refine (rTrim_n A0 xs0 c0 w6 a 35184372087808 h0 k0 Ea.out (by omega)).mono ?_
  rintro e w7 ⟨Aj, cj, rfl, qj, b9⟩
  replace hBel := hBel.trans (b9.mono hBel.size)
  replace h0 := h0.below b9
  replace h1 := h1.below b9
  replace gi := gi.below b9
  have gj := qj.lim
  clear b9 qj
  go_wp2_with fail
  refine (rEq_n Ai Aj (limbs a) (limbs a) ci cj w7 35184372087808 35184372087808 gi gj za za rfl (by omega) (by omega)).mono ?_
  rintro e w8 ⟨rfl, b9⟩
  replace hBel := hBel.trans (b9.mono hBel.size)
  replace h0 := h0.below b9
  replace h1 := h1.below b9
  replace gi := gi.below b9
  replace gj := gj.below b9
  clear b9
  clear gi
  clear gj
  go_wp2_with fail
  refine (FromUint64_c v w8 HV.out).mono ?_
  rintro e w9 ⟨Ak, ck, rfl, qk, b9⟩
  replace hBel := hBel.trans (b9.mono hBel.size)
  replace h0 := h0.below b9
  replace h1 := h1.below b9
  have gk := qk.lim
  clear b9 qk
  go_wp2_with fail
  refine (rFromUint64_c v w9 HV.out).mono ?_
  rintro e w10 ⟨Al, cl, rfl, ql, b9⟩
  replace hBel := hBel.trans (b9.mono hBel.size)
  replace h0 := h0.below b9
  replace h1 := h1.below b9
  replace gk := gk.below b9
  have gl := ql.lim
  clear b9 ql
  go_wp2_with fail
  refine (rEq_n Ak Al (limbs v) (limbs v) ck cl w10 2 2 gk gl zv zv rfl (by omega) (by omega)).mono ?_
  rintro e w11 ⟨rfl, b9⟩
  replace hBel := hBel.trans (b9.mono hBel.size)
  replace h0 := h0.below b9
  replace h1 := h1.below b9
  replace gk := gk.below b9
  replace gl := gl.below b9
  clear b9
  clear gk
  clear gl
  go_wp2_with fail
  refine (Compare_n A0 A1 xs0 xs1 c0 c1 w11 a b x h0 h1 Ea.out Eb.out Ex.out).mono ?_
  rintro e w12 ⟨rfl, b9⟩
  replace hBel := hBel.trans (b9.mono hBel.size)
  replace h0 := h0.below b9
  replace h1 := h1.below b9
  clear b9
  go_wp2_with fail
  refine (rCompare_n A0 A1 xs0 xs1 c0 c1 w12 a b 35184372087808 35184372087808 x h0 h1 k0 k1 Ea.out Eb.out Ex.out (by omega) (by omega)).mono ?_
  rintro e w13 ⟨rfl, b9⟩
  replace hBel := hBel.trans (b9.mono hBel.size)
  replace h0 := h0.below b9
  replace h1 := h1.below b9
  clear b9
  go_wp2_with fail
  go_ret
  exact ⟨rfl, hBel⟩

set_option maxRecDepth 100000 in
set_option maxHeartbeats 4000000 in
theorem nvalues_bg (A0 : Option Addr) (xs0 : List Nat) (c0 : Nat) (A1 : Option Addr) (xs1 : List Nat) (c1 : Nat) (v : Nat) (w : World) (h0 : Lim w A0 c0 xs0) (h1 : Lim w A1 c1 xs1) (k0 : xs0.length ≤ 35184372087808) (k1 : xs1.length ≤ 35184372087808) (hc : Ba * Ba ≤ val xs0) (hv : v < Ba * Ba) :
    Calls Try.prog 12 #[.slice A0 xs0.length c0, .slice A1 xs1.length c1, .int .u64 (v : Int)] w (RetB w true) := by
  obtain ⟨a, ea⟩ : ∃ s, val xs0 = s := ⟨_, rfl⟩
  have za : (limbs a).length ≤ 35184372087808 := by rw [← ea]; exact Nat.le_trans (limbs_length_le h0.lb) k0
  obtain ⟨b, eb⟩ : ∃ s, val xs1 = s := ⟨_, rfl⟩
  have zb : (limbs b).length ≤ 35184372087808 := by rw [← eb]; exact Nat.le_trans (limbs_length_le h1.lb) k1
  rw [ea] at hc
  have HC := Lib.hid hc
  have HV := Lib.hid hv
  clear hc hv
  have zv : (limbs v).length ≤ 2 := limbs_len2 HV.out
  obtain ⟨x, ex⟩ : ∃ x, cmpN a b = x := ⟨_, rfl⟩
  have Ea := Lib.hid ea
  have Eb := Lib.hid eb
  have Ex := Lib.hid ex
  clear ea eb ex
  have hBel : Below w.heap.size w w := Below.refl _ _
  go_enter Try.func12, Try.ntmps12
  go_wp2_with fail
  refine (U64N_n A0 xs0 c0 w a h0 Ea.out HC.out).mono ?_
  rintro e w1 ⟨rfl, b9⟩
  replace hBel := hBel.trans (b9.mono hBel.size)
  replace h0 := h0.below b9
  replace h1 := h1.below b9
  clear b9
  go_wp2_with fail
  refine (rU64N_n A0 xs0 c0 w1 a 35184372087808 h0 k0 Ea.out HC.out (by omega)).mono ?_
  rintro e w2 ⟨rfl, b9⟩
  replace hBel := hBel.trans (b9.mono hBel.size)
  replace h0 := h0.below b9
  replace h1 := h1.below b9
  clear b9
  go_wp2_with fail
  refine (FromUint64_c v w2 HV.out).mono ?_
  rintro e w3 ⟨Af, cf, rfl, qf, b9⟩
  replace hBel := hBel.trans (b9.mono hBel.size)
  replace h0 := h0.below b9
  replace h1 := h1.below b9
  have gf := qf.lim
  clear b9 qf
  go_wp2_with fail
  refine (U64Y_n Af (limbs v) cf w3 v gf (val_limbs v) HV.out).mono ?_
  rintro e w4 ⟨rfl, b9⟩
  replace hBel := hBel.trans (b9.mono hBel.size)
  replace h0 := h0.below b9
  replace h1 := h1.below b9
  replace gf := gf.below b9
  clear b9
  clear gf
  go_wp2_with fail
  refine (awake1_c w4).mono ?_
  rintro e w5 ⟨rfl, b9⟩
  replace hBel := hBel.trans (b9.mono hBel.size)
  replace h0 := h0.below b9
  replace h1 := h1.below b9
  clear b9
  go_wp2_with fail
  refine (Trim_n A0 xs0 c0 w5 a 35184372087808 h0 k0 Ea.out (by omega)).mono ?_
  rintro e w6 ⟨Ai, ci, rfl, qi, b9⟩
  replace hBel := hBel.trans (b9.mono hBel.size)
  replace h0 := h0.below b9
  replace h1 := h1.below b9
  have gi := qi.lim
  clear b9 qi
  go_wp2_with fail
  refine (rTrim_n A0 xs0 c0 w6 a 35184372087808 h0 k0 Ea.out (by omega)).mono ?_
  rintro e w7 ⟨Aj, cj, rfl, qj, b9⟩
  replace hBel := hBel.trans (b9.mono hBel.size)
  replace h0 := h0.below b9
  replace h1 := h1.below b9
  replace gi := gi.below b9
  have gj := qj.lim
  clear b9 qj
  go_wp2_with fail
  refine (rEq_n Ai Aj (limbs a) (limbs a) ci cj w7 35184372087808 35184372087808 gi gj za za rfl (by omega) (by omega)).mono ?_
  rintro e w8 ⟨rfl, b9⟩
  replace hBel := hBel.trans (b9.mono hBel.size)
  replace h0 := h0.below b9
  replace h1 := h1.below b9
  replace gi := gi.below b9
  replace gj := gj.below b9
  clear b9
  clear gi
  clear gj
  go_wp2_with fail
  refine (FromUint64_c v w8 HV.out).mono ?_
  rintro e w9 ⟨Ak, ck, rfl, qk, b9⟩
  replace hBel := hBel.trans (b9.mono hBel.size)
  replace h0 := h0.below b9
  replace h1 := h1.below b9
  have gk := qk.lim
  clear b9 qk
  go_wp2_with fail
  refine (rFromUint64_c v w9 HV.out).mono ?_
  rintro e w10 ⟨Al, cl, rfl, ql, b9⟩
  replace hBel := hBel.trans (b9.mono hBel.size)
  replace h0 := h0.below b9
  replace h1 := h1.below b9
  replace gk := gk.below b9
  have gl := ql.lim
  clear b9 ql
  go_wp2_with fail
  refine (rEq_n Ak Al (limbs v) (limbs v) ck cl w10 2 2 gk gl zv zv rfl (by omega) (by omega)).mono ?_
  rintro e w11 ⟨rfl, b9⟩
  replace hBel := hBel.trans (b9.mono hBel.size)
  replace h0 := h0.below b9
  replace h1 := h1.below b9
  replace gk := gk.below b9
  replace gl := gl.below b9
  clear b9
  clear gk
  clear gl
  go_wp2_with fail
  refine (Compare_n A0 A1 xs0 xs1 c0 c1 w11 a b x h0 h1 Ea.out Eb.out Ex.out).mono ?_
  rintro e w12 ⟨rfl, b9⟩
  replace hBel := hBel.trans (b9.mono hBel.size)
  replace h0 := h0.below b9
  replace h1 := h1.below b9
  clear b9
  go_wp2_with fail
  refine (rCompare_n A0 A1 xs0 xs1 c0 c1 w12 a b 35184372087808 35184372087808 x h0 h1 k0 k1 Ea.out Eb.out Ex.out (by omega) (by omega)).mono ?_
  rintro e w13 ⟨rfl, b9⟩
  replace hBel := hBel.trans (b9.mono hBel.size)
  replace h0 := h0.below b9
  replace h1 := h1.below b9
  clear b9
  go_wp2_with fail
  go_ret
  exact ⟨rfl, hBel⟩

theorem nvalues_walk (A0 : Option Addr) (xs0 : List Nat) (c0 : Nat) (A1 : Option Addr) (xs1 : List Nat) (c1 : Nat) (v : Int) (w : World) (h0 : Lim w A0 c0 xs0) (h1 : Lim w A1 c1 xs1) (k0 : xs0.length ≤ 35184372087808) (k1 : xs1.length ≤ 35184372087808) (wv : (Lit.int .u64 v).wf = true) :
    Calls Try.prog 12 #[.slice A0 xs0.length c0, .slice A1 xs1.length c1, .int .u64 v] w (RetB w true) := by
  obtain ⟨v1, v2⟩ := bounds_u64 wv
  obtain ⟨n, rfl⟩ := Int.eq_ofNat_of_zero_le v1
  have hn : n < Ba * Ba := by have hB : Ba * Ba = 18446744073709551616 := by decide
                              omega
  rcases Nat.lt_or_ge (val xs0) (Ba * Ba) with h | h
  · exact nvalues_sm A0 xs0 c0 A1 xs1 c1 n w h0 h1 k0 k1 h hn
  · exact nvalues_bg A0 xs0 c0 A1 xs1 c1 n w h0 h1 k0 k1 h hn
end Go.Proofs.Ytkoehkadhjjmoaa
