/- The walk of the statement IntegerDivides: it returns true. -/
import Derived.Test.YtkoehkadhjjmoaaIntF
namespace Go.Proofs.Ytkoehkadhjjmoaa
open Go.RowKit Gm

theorem ediv_natAbs_le (a b : Int) : (a / b).natAbs ≤ a.natAbs := Int.natAbs_ediv_le_natAbs a b
theorem emod_natAbs_lt {a b : Int} (h : b ≠ 0) : (a % b).natAbs < b.natAbs := by
  have h1 := Int.emod_nonneg a h
  have h2 := Int.emod_lt a h
  omega

set_option maxRecDepth 100000 in
set_option maxHeartbeats 4000000 in
theorem idivides1 (p0 : Bool) (A0 : Option Addr) (xs0 : List Nat) (c0 : Nat) (p1 : Bool) (A1 : Option Addr) (xs1 : List Nat) (c1 : Nat) (w : World) (h0 : Lim w A0 c0 xs0) (h1 : Lim w A1 c1 xs1) (k0 : xs0.length ≤ 35184372087808) (k1 : xs1.length ≤ 35184372087808) (hz : iv p1 xs1 ≠ 0) :
    Calls Try.prog 7 #[.agg #[.bool p0, .slice A0 xs0.length c0], .agg #[.bool p1, .slice A1 xs1.length c1]] w (RetB w true) := by
  obtain ⟨a, ea⟩ : ∃ s, iv p0 xs0 = s := ⟨_, rfl⟩
  obtain ⟨b, eb⟩ : ∃ s, iv p1 xs1 = s := ⟨_, rfl⟩
  have za : (limbs a.natAbs).length ≤ 35184372087808 := by rw [← ea]; exact iv_len h0.lb k0
  have zb : (limbs b.natAbs).length ≤ 35184372087808 := by rw [← eb]; exact iv_len h1.lb k1
  rw [eb] at hz
  obtain ⟨Q, eQ⟩ : ∃ s, a / b = s := ⟨_, rfl⟩
  obtain ⟨R, eR⟩ : ∃ s, a % b = s := ⟨_, rfl⟩
  have zQ : (limbs Q.natAbs).length ≤ 35184372087808 := by rw [← eQ]; exact Nat.le_trans (limbs_mono (ediv_natAbs_le a b)) za
  have zR : (limbs R.natAbs).length ≤ 35184372087808 := by rw [← eR]; exact Nat.le_trans (limbs_mono (Nat.le_of_lt (emod_natAbs_lt hz))) zb
  obtain ⟨P, eP⟩ : ∃ s, Q * b = s := ⟨_, rfl⟩
  have eS : P + R = a := by rw [← eP, ← eQ, ← eR, Int.mul_comm]; exact Int.mul_ediv_add_emod a b
  have zP : (limbs P.natAbs).length ≤ 35184372087809 := by
    have hP : P = a - R := by omega
    exact isub_sz (m := a) (n := R) (k := 35184372087808) (l := 35184372087808) za zR hP.symm (by omega) (by omega)
  obtain ⟨T, eT⟩ : ∃ s, ((b.natAbs : Nat) : Int) = s := ⟨_, rfl⟩
  have hR0 : 0 ≤ R := by rw [← eR]; exact Int.emod_nonneg a hz
  have hRT : R < T := by rw [← eR, ← eT]; exact Int.emod_lt a hz
  obtain ⟨sg, esg⟩ : ∃ s, sgn R = s := ⟨_, rfl⟩
  have hsg : 0 ≤ sg := by rw [← esg]; unfold sgn; split <;> (try split) <;> omega
  have ecm : cmpI R T = -1 := by unfold cmpI; rw [if_pos hRT]
  have Ea := Lib.hid ea
  have Eb := Lib.hid eb
  have EQ := Lib.hid eQ
  have ER := Lib.hid eR
  have EP := Lib.hid eP
  have ES := Lib.hid eS
  have ET := Lib.hid eT
  have ESG := Lib.hid esg
  have ECM := Lib.hid ecm
  have HZ := Lib.hid hz
  clear ea eb eQ eR eP eS eT esg ecm hz hRT hR0
  go_enter Try.func7, Try.ntmps7
  go_wp2_with fail
  obtain ⟨W, hW, hbW, hsz, cf0, cf1, cf2, cf3⟩ := two_boxes w p0 p1 (.slice A0 xs0.length c0) (.slice A1 xs1.length c1)
  rw [hW]
  clear hW
  have j0 : w.heap.size < W.heap.size := by omega
  have j1 : w.heap.size + 1 < W.heap.size := by omega
  clear hsz
  replace h0 := h0.below hbW
  replace h1 := h1.below hbW
  refine (IDivMod_n p0 p1 A0 A1 xs0 xs1 c0 c1 W a b Q R 35184372087808 35184372087808 h0 h1 k0 k1 Ea.out Eb.out HZ.out EQ.out ER.out (by omega) (by omega)).mono ?_
  rintro e w1 ⟨A2, c2, A3, c3, rfl, r2, r3, b1⟩
  have d0 := cellB b1 j0 cf0
  have d1 := cellB b1 j0 cf1
  have d2 := cellB b1 j1 cf2
  have d3 := cellB b1 j1 cf3
  have y0 : w.heap.size < w1.heap.size := Nat.lt_of_lt_of_le j0 b1.size
  have y1 : w.heap.size + 1 < w1.heap.size := Nat.lt_of_lt_of_le j1 b1.size
  go_wp2_with fail
  obtain ⟨W1, hW1, hbW1, hsz1, cg0, cg1, cg2, cg3⟩ := two_boxes w1 (decide (Q < 0)) (decide (R < 0)) (.slice A2 (limbs Q.natAbs).length c2) (.slice A3 (limbs R.natAbs).length c3)
  rw [hW1]
  clear hW1
  have j2 : w1.heap.size < W1.heap.size := by omega
  have j3 : w1.heap.size + 1 < W1.heap.size := by omega
  clear hsz1
  have bW1 : Below W.heap.size W W1 := b1.trans (hbW1.mono b1.size)
  have q2 := r2.lim.below hbW1
  have q3 := r3.lim.below hbW1
  clear d0 d1 d2 d3 r2 r3
  refine (rIDivMod_n p0 p1 A0 A1 xs0 xs1 c0 c1 W1 a b Q R 35184372087808 35184372087808 (h0.below bW1) (h1.below bW1) k0 k1 Ea.out Eb.out HZ.out EQ.out ER.out (by omega) (by omega)).mono ?_
  rintro e w3 ⟨A4, c4, A5, c5, rfl, r4, r5, b3⟩
  go_wp2_with fail
  obtain ⟨W3, hW3, hbW3, hsz3, ch0, ch1, ch2, ch3⟩ := two_boxes w3 (decide (Q < 0)) (decide (R < 0)) (.slice A4 (limbs Q.natAbs).length c4) (.slice A5 (limbs R.natAbs).length c5)
  rw [hW3]
  clear hW3
  have j4 : w3.heap.size < W3.heap.size := by omega
  have j5 : w3.heap.size + 1 < W3.heap.size := by omega
  clear hsz3
  have bW3 : Below W1.heap.size W1 W3 := b3.trans (hbW3.mono b3.size)
  have q4 := r4.lim.below hbW3
  have q5 := r5.lim.below hbW3
  clear r4 r5 b3 hbW3 b1 hbW1
  refine (awake2_c W3).mono ?_
  rintro e w4 ⟨rfl, b4⟩
  have a0 := cellB (bW3.trans (b4.mono bW3.size)) j2 cg0
  have a1 := cellB (bW3.trans (b4.mono bW3.size)) j2 cg1
  have a2 := cellB b4 j4 ch0
  have a3 := cellB b4 j4 ch1
  go_wp2_with fail
  refine (rIEq_c Q A2 A4 c2 c4 w4 ((q2.below bW3).below b4) (q4.below b4) (by omega)).mono ?_
  rintro e w5 ⟨rfl, b5⟩
  have b35 : Below W3.heap.size W3 w5 := b4.trans (b5.mono b4.size)
  clear a0 a1 a2 a3
  have a0 := cellB (bW3.trans (b35.mono bW3.size)) j3 cg2
  have a1 := cellB (bW3.trans (b35.mono bW3.size)) j3 cg3
  have a2 := cellB b35 j5 ch2
  have a3 := cellB b35 j5 ch3
  go_wp2_with fail
  refine (rIEq_c R A3 A5 c3 c5 w5 ((q3.below bW3).below b35) (q5.below b35) (by omega)).mono ?_
  rintro e w6 ⟨rfl, b6⟩
  have b16 : Below W1.heap.size W1 w6 := bW3.trans ((b35.trans (b6.mono b35.size)).mono bW3.size)
  have b06 : Below W.heap.size W w6 := bW1.trans (b16.mono bW1.size)
  clear a0 a1 a2 a3 ch0 ch1 ch2 ch3 b4 b5 b6 b35 q4 q5 bW3 j4 j5
  have e0 := cellB b06 j0 cf0
  have e1 := cellB b06 j0 cf1
  have e2 := cellB b06 j1 cf2
  have e3 := cellB b06 j1 cf3
  have e4 := cellB b16 j2 cg0
  have e5 := cellB b16 j2 cg1
  have e6 := cellB b16 j3 cg2
  have e7 := cellB b16 j3 cg3
  have i0 : w.heap.size < w6.heap.size := Nat.lt_of_lt_of_le j0 b06.size
  have i1 : w.heap.size + 1 < w6.heap.size := Nat.lt_of_lt_of_le j1 b06.size
  have i2 : w1.heap.size < w6.heap.size := Nat.lt_of_lt_of_le j2 b16.size
  have i3 : w1.heap.size + 1 < w6.heap.size := Nat.lt_of_lt_of_le j3 b16.size
  replace h0 := h0.below b06
  replace h1 := h1.below b06
  replace q2 := q2.below b16
  replace q3 := q3.below b16
  have hbel : Below w.heap.size w w6 := hbW.trans (b06.mono hbW.size)
  have hBel : Below w6.heap.size w6 w6.drew := (Below.refl _ _).drew
  clear cf0 cf1 cf2 cf3 cg0 cg1 cg2 cg3 bW1 b16 b06 hbW j0 j1 j2 j3
  go_wp2_with fail
  go_region_held3 (fun w' => w'.cell? ⟨w.heap.size, 0, none⟩ = some (.bool p0) ∧ w'.cell? ⟨w.heap.size, 1, none⟩ = some (.slice A0 xs0.length c0) ∧ w'.cell? ⟨w.heap.size + 1, 0, none⟩ = some (.bool p1) ∧ w'.cell? ⟨w.heap.size + 1, 1, none⟩ = some (.slice A1 xs1.length c1) ∧
      w'.cell? ⟨w1.heap.size, 0, none⟩ = some (.bool (decide (Q < 0))) ∧ w'.cell? ⟨w1.heap.size, 1, none⟩ = some (.slice A2 (limbs Q.natAbs).length c2) ∧ w'.cell? ⟨w1.heap.size + 1, 0, none⟩ = some (.bool (decide (R < 0))) ∧ w'.cell? ⟨w1.heap.size + 1, 1, none⟩ = some (.slice A3 (limbs R.natAbs).length c3))
    (first | exact ⟨cellB hBel i0 e0, cellB hBel i0 e1, cellB hBel i1 e2, cellB hBel i1 e3, cellB hBel i2 e4, cellB hBel i2 e5, cellB hBel i3 e6, cellB hBel i3 e7⟩ | go_keep)
    (first
      | (go_at_call 29; refine (IMul_n (decide (Q < 0)) p1 A2 A1 (limbs Q.natAbs) xs1 c2 c1 _ Q b P 35184372087808 35184372087808 ?_ ?_ zQ k1 (iv_canon Q) Eb.out EP.out (by omega)).mono ?_; exact q2.below hBel; exact h1.below hBel; rintro e wm ⟨Am, cm, rfl, rm, b9⟩; replace hBel := hBel.trans (b9.mono hBel.size))
      | (go_at_call 27; refine (IAdd_n (decide (P < 0)) (decide (R < 0)) Am A3 (limbs P.natAbs) (limbs R.natAbs) cm c3 _ P R a 35184372087809 35184372087808 ?_ ?_ zP zR (iv_canon P) (iv_canon R) ES.out (by omega) (by omega)).mono ?_; exact rm.lim; exact q3.below hBel; rintro e ws ⟨As, cs, rfl, rs, b9⟩; replace hBel := hBel.trans (b9.mono hBel.size))
      | (go_at_call 32; refine (rNorm_n p0 A0 xs0 c0 _ a 35184372087808 ?_ k0 Ea.out (by omega)).mono ?_; exact h0.below hBel; rintro e wn ⟨An, cn, rfl, rn, bn⟩; replace hBel := hBel.trans (bn.mono hBel.size))
      | (go_at_call 28; refine (rIEq_c a As An cs cn _ ?_ ?_ ?_).mono ?_; exact rs.lim.below bn; exact rn.lim; omega; rintro e w' ⟨rfl, b9⟩; replace hBel := hBel.trans (b9.mono hBel.size))
      | (go_at_call 25; refine (Sign_k R sg A3 c3 _ ?_ ESG.out).mono ?_; exact q3.below hBel; rintro e w' ⟨rfl, b9⟩; replace hBel := hBel.trans (b9.mono hBel.size))
      | (go_at_call 34; refine (IAbs_n p1 A1 xs1 c1 _ b T 35184372087808 ?_ k1 Eb.out ET.out (by omega)).mono ?_; exact h1.below hBel; rintro e wt ⟨At, ct, rfl, rt, b9⟩; replace hBel := hBel.trans (b9.mono hBel.size))
      | (go_at_call 23; refine (ICompare_k R T (-1) A3 At c3 ct _ ?_ ?_ ECM.out).mono ?_; exact q3.below hBel; exact rt.lim; rintro e w' ⟨rfl, b9⟩; replace hBel := hBel.trans (b9.mono hBel.size)))
  rename_i hHeld
  clear hHeld
  go_wp2
  go_ret
  exact ⟨rfl, hbel.trans (hBel.mono hbel.size)⟩

set_option maxRecDepth 100000 in
set_option maxHeartbeats 4000000 in
theorem idivides0 (p0 : Bool) (A0 : Option Addr) (xs0 : List Nat) (c0 : Nat) (p1 : Bool) (A1 : Option Addr) (xs1 : List Nat) (c1 : Nat) (w : World) (h0 : Lim w A0 c0 xs0) (h1 : Lim w A1 c1 xs1) (k1 : xs1.length ≤ 35184372087808) (hz : iv p1 xs1 = 0) :
    Calls Try.prog 7 #[.agg #[.bool p0, .slice A0 xs0.length c0], .agg #[.bool p1, .slice A1 xs1.length c1]] w (RetB w true) := by
  have HZ := Lib.hid hz
  clear hz
  have hEq : ∀ W, Calls Try.prog 28 #[.agg #[.bool false, .slice none 0 0], .agg #[.bool false, .slice none 0 0]] W (RetB W true) := fun W => by
    have h := rIEqual_c false false none none [] [] 0 0 W (Lim.nil _ _) (Lim.nil _ _) (by decide) (by decide)
    simpa using h
  have HEQ := Lib.hid hEq
  clear hEq
  go_enter Try.func7, Try.ntmps7
  go_wp2_with fail
  obtain ⟨W, hW, hbW, hsz, cf0, cf1, cf2, cf3⟩ := two_boxes w p0 p1 (.slice A0 xs0.length c0) (.slice A1 xs1.length c1)
  rw [hW]
  clear hW
  have j0 : w.heap.size < W.heap.size := by omega
  have j1 : w.heap.size + 1 < W.heap.size := by omega
  clear hsz
  replace h0 := h0.below hbW
  replace h1 := h1.below hbW
  refine (IDivMod0_n p0 p1 A0 A1 xs0 xs1 c0 c1 W 0 h0 h1 HZ.out rfl).mono ?_
  rintro e w1 ⟨rfl, b1⟩
  have d0 := cellB b1 j0 cf0
  have d1 := cellB b1 j0 cf1
  have d2 := cellB b1 j1 cf2
  have d3 := cellB b1 j1 cf3
  have y0 : w.heap.size < w1.heap.size := Nat.lt_of_lt_of_le j0 b1.size
  have y1 : w.heap.size + 1 < w1.heap.size := Nat.lt_of_lt_of_le j1 b1.size
  go_wp2_with fail
  obtain ⟨W1, hW1, hbW1, hsz1, cg0, cg1, cg2, cg3⟩ := two_boxes w1 false false (.slice none 0 0) (.slice none 0 0)
  rw [hW1]
  clear hW1
  have j2 : w1.heap.size < W1.heap.size := by omega
  have j3 : w1.heap.size + 1 < W1.heap.size := by omega
  clear hsz1
  have bW1 : Below W.heap.size W W1 := b1.trans (hbW1.mono b1.size)
  clear d0 d1 d2 d3
  refine (rIDivMod0_n p0 p1 A0 A1 xs0 xs1 c0 c1 W1 0 35184372087808 (h1.below bW1) k1 HZ.out rfl (by omega)).mono ?_
  rintro e w3 ⟨rfl, b3⟩
  go_wp2_with fail
  obtain ⟨W3, hW3, hbW3, hsz3, ch0, ch1, ch2, ch3⟩ := two_boxes w3 false false (.slice none 0 0) (.slice none 0 0)
  rw [hW3]
  clear hW3
  have j4 : w3.heap.size < W3.heap.size := by omega
  have j5 : w3.heap.size + 1 < W3.heap.size := by omega
  clear hsz3
  have bW3 : Below W1.heap.size W1 W3 := b3.trans (hbW3.mono b3.size)
  have b03 : Below w.heap.size w W3 := (hbW.trans (bW1.mono hbW.size)).trans (bW3.mono (Nat.le_trans hbW.size bW1.size))
  clear b3 hbW3 b1 hbW1
  refine (awake2_c W3).mono ?_
  rintro e w4 ⟨rfl, b4⟩
  have a0 := cellB (bW3.trans (b4.mono bW3.size)) j2 cg0
  have a1 := cellB (bW3.trans (b4.mono bW3.size)) j2 cg1
  have a2 := cellB b4 j4 ch0
  have a3 := cellB b4 j4 ch1
  go_wp2_with fail
  refine (HEQ.out w4).mono ?_
  rintro e w5 ⟨rfl, b5⟩
  have b35 : Below W3.heap.size W3 w5 := b4.trans (b5.mono b4.size)
  clear a0 a1 a2 a3
  have a0 := cellB (bW3.trans (b35.mono bW3.size)) j3 cg2
  have a1 := cellB (bW3.trans (b35.mono bW3.size)) j3 cg3
  have a2 := cellB b35 j5 ch2
  have a3 := cellB b35 j5 ch3
  go_wp2_with fail
  refine (HEQ.out w5).mono ?_
  rintro e w6 ⟨rfl, b6⟩
  have hend : Below w.heap.size w w6 := b03.trans ((b35.trans (b6.mono b35.size)).mono b03.size)
  clear a0 a1 a2 a3
  go_wp2_with fail
  go_quiet (fail)
  go_wp2
  go_ret
  exact ⟨rfl, below_drewN hend _⟩

theorem idivides_walk (p0 : Bool) (A0 : Option Addr) (xs0 : List Nat) (c0 : Nat) (p1 : Bool) (A1 : Option Addr) (xs1 : List Nat) (c1 : Nat) (w : World) (h0 : Lim w A0 c0 xs0) (h1 : Lim w A1 c1 xs1) (k0 : xs0.length ≤ 35184372087808) (k1 : xs1.length ≤ 35184372087808) :
    Calls Try.prog 7 #[.agg #[.bool p0, .slice A0 xs0.length c0], .agg #[.bool p1, .slice A1 xs1.length c1]] w (RetB w true) := by
  by_cases hz : iv p1 xs1 = 0
  · exact idivides0 p0 A0 xs0 c0 p1 A1 xs1 c1 w h0 h1 k1 hz
  · exact idivides1 p0 A0 xs0 c0 p1 A1 xs1 c1 w h0 h1 k0 k1 hz
end Go.Proofs.Ytkoehkadhjjmoaa
