/- The walk of the statement IntegerNative: it returns true. -/
import Derived.Test.YtkoehkadhjjmoaaIntE
import Derived.OpenShut
namespace Go.Proofs.Ytkoehkadhjjmoaa
open Go.RowKit Gm

/-- an integer that fits -/
theorem Value_y (n : Int) (A : Option Addr) (c : Nat) (w : World) (h : Lim w A c (limbs n.natAbs)) (h1 : -9223372036854775808 ≤ n) (h2 : n ≤ 9223372036854775807) :
    Calls Try.prog 39 #[.agg #[.bool (decide (n < 0)), .slice A (limbs n.natAbs).length c]] w fun e w' => e = .returned (.tuple #[.int .i64 n, .bool true]) ∧ Below w.heap.size w w' := by
  have k := Value_c (decide (n < 0)) A (limbs n.natAbs) c w h
  rw [iv_canon] at k
  have f : fits n = true := decide_eq_true ⟨h1, h2⟩
  refine k.mono ?_
  rintro e w' ⟨rfl, hb⟩
  rw [f]
  exact ⟨rfl, hb⟩

set_option maxHeartbeats 1000000 in
theorem native_walk (a b : Int) (w : World) (wa : (Lit.int .i32 a).wf = true) (wb : (Lit.int .i32 b).wf = true) :
    Calls Try.prog 11 #[.int .i32 a, .int .i32 b] w (RetB w true) := by
  obtain ⟨a1, a2⟩ := bounds_i32 wa
  obtain ⟨b1, b2⟩ := bounds_i32 wb
  clear wa wb
  have hB : Ba * Ba = 18446744073709551616 := by decide
  have za : (limbs a.natAbs).length ≤ 2 := limbs_two.2 (by rw [hB]; omega)
  have zb : (limbs b.natAbs).length ≤ 2 := limbs_two.2 (by rw [hB]; omega)
  obtain ⟨s, es⟩ : ∃ s, a + b = s := ⟨_, rfl⟩
  obtain ⟨d, ed⟩ : ∃ d, a - b = d := ⟨_, rfl⟩
  obtain ⟨m, em⟩ : ∃ m, a * b = m := ⟨_, rfl⟩
  have m0 : m.natAbs ≤ 2147483648 * 2147483648 := by rw [← em, Int.natAbs_mul]; exact Nat.mul_le_mul (by omega) (by omega)
  have m1 : -4611686018427387904 ≤ m := by omega
  have m2 : m ≤ 4611686018427387904 := by omega
  have s1 : -4294967296 ≤ s := by omega
  have s2 : s ≤ 4294967294 := by omega
  have d1 : -4294967295 ≤ d := by omega
  have d2 : d ≤ 4294967295 := by omega
  have ES := Lib.hid es
  have ED := Lib.hid ed
  have EM := Lib.hid em
  clear es ed em m0 hB
  go_enter Try.func11, Try.ntmps11
  go_wp2_with fail
  refine (FromInt_c a _ (by omega) (by omega)).mono ?_
  rintro e w1 ⟨A1, c1, rfl, r1, bw1⟩
  go_wp2_with fail
  refine (FromInt_c b _ (by omega) (by omega)).mono ?_
  rintro e w2 ⟨A2, c2, rfl, r2, bw2⟩
  go_wp2_with fail
  obtain ⟨W, hW, hbW, hsz, t0, t1, t2, t3⟩ := two_boxes w2 (decide (a < 0)) (decide (b < 0)) (.slice A1 (limbs a.natAbs).length c1) (.slice A2 (limbs b.natAbs).length c2)
  rw [hW]
  clear hW
  have hz : w2.heap.size + 2 ≤ W.heap.size := by omega
  clear hsz
  have hBW : Below w.heap.size w W := (bw1.trans (bw2.mono bw1.size)).trans (hbW.mono (Nat.le_trans bw1.size bw2.size))
  have l1 : Lim W A1 c1 (limbs a.natAbs) := (r1.lim.below bw2).below hbW
  have l2 : Lim W A2 c2 (limbs b.natAbs) := r2.lim.below hbW
  clear r1 r2 bw1 bw2 hbW
  refine (IAdd_n (decide (a < 0)) (decide (b < 0)) A1 A2 (limbs a.natAbs) (limbs b.natAbs) c1 c2 W a b s 2 2 l1 l2 za zb (iv_canon a) (iv_canon b) ES.out (by omega) (by omega)).mono ?_
  rintro e w3 ⟨A3, c3, rfl, r3, b3⟩
  go_wp2_with fail
  refine (Value_y s A3 c3 w3 r3.lim (by omega) (by omega)).mono ?_
  rintro e w4 ⟨rfl, b4⟩
  have bW4 : Below W.heap.size W w4 := b3.trans (b4.mono b3.size)
  obtain ⟨u0, u1, u2, u3⟩ := keep2 bW4 hz ⟨t0, t1, t2, t3⟩
  clear r3 b3 b4
  go_wp2_with fail
  refine (IMul_n (decide (a < 0)) (decide (b < 0)) A1 A2 (limbs a.natAbs) (limbs b.natAbs) c1 c2 w4 a b m 2 2 (l1.below bW4) (l2.below bW4) za zb (iv_canon a) (iv_canon b) EM.out (by omega)).mono ?_
  rintro e w5 ⟨A5, c5, rfl, r5, b5⟩
  go_wp2_with fail
  refine (Value_y m A5 c5 w5 r5.lim (by omega) (by omega)).mono ?_
  rintro e w6 ⟨rfl, b6⟩
  have bW6 : Below W.heap.size W w6 := (bW4.trans (b5.mono bW4.size)).trans (b6.mono (Nat.le_trans bW4.size b5.size))
  obtain ⟨v0, v1, v2, v3⟩ := keep2 bW6 hz ⟨t0, t1, t2, t3⟩
  clear r5 b5 b6 bW4 u0 u1 u2 u3
  go_wp2_with fail
  refine (ISub_n (decide (a < 0)) (decide (b < 0)) A1 A2 (limbs a.natAbs) (limbs b.natAbs) c1 c2 w6 a b d 2 2 (l1.below bW6) (l2.below bW6) za zb (iv_canon a) (iv_canon b) ED.out (by omega) (by omega)).mono ?_
  rintro e w7 ⟨A7, c7, rfl, r7, b7⟩
  go_wp2_with fail
  refine (Value_y d A7 c7 w7 r7.lim (by omega) (by omega)).mono ?_
  rintro e w8 ⟨rfl, b8⟩
  have bW8 : Below W.heap.size W w8 := (bW6.trans (b7.mono bW6.size)).trans (b8.mono (Nat.le_trans bW6.size b7.size))
  clear r7 b7 b8 bW6 v0 v1 v2 v3 l1 l2 t0 t1 t2 t3
  go_wp2_with fail
  refine (awake2_c _).mono ?_
  rintro e w9 ⟨rfl, b9⟩
  have hfin : Below w.heap.size w w9 := (hBW.trans (bW8.mono hBW.size)).trans (b9.mono (Nat.le_trans hBW.size bW8.size))
  clear b9 bW8 hBW hz za zb
  have es := ES.out
  have ed := ED.out
  have em := EM.out
  clear ES ED EM
  go_wp2
  go_ret
  exact ⟨rfl, hfin⟩

end Go.Proofs.Ytkoehkadhjjmoaa
