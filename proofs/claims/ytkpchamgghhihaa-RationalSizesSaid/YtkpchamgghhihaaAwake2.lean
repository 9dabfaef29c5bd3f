/- The sanity check of layer 2's statements returns true. -/
import Derived.Test.YtkpchamgghhihaaIntC
namespace Go.Proofs.Ytkpchamgghhihaa
open Go.RowKit Gm

theorem iv_canon (n : Int) : iv (decide (n < 0)) (limbs n.natAbs) = n := by
  unfold iv; rw [val_limbs]
  by_cases h : n < 0 <;> simp [h] <;> omega
theorem limbs_small {n : Nat} (h : n < Ba * Ba) : (limbs n).length < 70368744177664 := Nat.lt_of_le_of_lt (limbs_two.2 h) (by omega)

theorem cellB {B b o : Nat} {W w' : World} {v : Value} (hb : Below B W w') (hlt : b < B) (h : W.cell? ⟨b, o, none⟩ = some v) : w'.cell? ⟨b, o, none⟩ = some v :=
  (hb.cell (p := ⟨b, o, none⟩) hlt).trans h

/-- the division of small canonical integers -/
theorem IDivMod_sm (m n q r : Int) (A B : Option Addr) (c d : Nat) (w : World) (ha : Lim w A c (limbs m.natAbs)) (hb : Lim w B d (limbs n.natAbs)) (hm : m.natAbs < Ba * Ba) (h0 : n ≠ 0) (hle : n.natAbs ≤ m.natAbs) (hq : m / n = q) (hr : m % n = r) :
    Calls Try.prog 26 #[.agg #[.bool (decide (m < 0)), .slice A (limbs m.natAbs).length c], .agg #[.bool (decide (n < 0)), .slice B (limbs n.natAbs).length d]] w (RetDivI w q r) := by
  have h := IDivMod_c (decide (m < 0)) (decide (n < 0)) A B (limbs m.natAbs) (limbs n.natAbs) c d w ha hb (limbs_small hm) (Nat.le_of_lt (limbs_small (Nat.lt_of_le_of_lt hle hm))) (by rw [val_limbs]; omega)
    (fun W hW => DivMod_small A B (limbs m.natAbs) (limbs n.natAbs) c d W (ha.below hW) (hb.below hW) (by rw [val_limbs]; omega) (by rw [val_limbs, val_limbs]; exact hle) (by rw [val_limbs]; exact hm))
  rw [iv_canon, iv_canon, hq, hr] at h
  exact h

/-- equal canonical integers -/
theorem rIEq_c (n : Int) (A B : Option Addr) (c d : Nat) (w : World) (ha : Lim w A c (limbs n.natAbs)) (hb : Lim w B d (limbs n.natAbs)) (hs : (limbs n.natAbs).length ≤ 70368744177664) :
    Calls Try.prog 31 #[.agg #[.bool (decide (n < 0)), .slice A (limbs n.natAbs).length c], .agg #[.bool (decide (n < 0)), .slice B (limbs n.natAbs).length d]] w (RetB w true) := by
  have h := rIEqual_c (decide (n < 0)) (decide (n < 0)) A B (limbs n.natAbs) (limbs n.natAbs) c d w ha hb hs hs
  simpa using h

set_option maxHeartbeats 1000000 in
theorem awake2_c (w : World) : Calls Try.prog 29 #[] w (RetB w true) := by
  have hB : Ba * Ba = 18446744073709551616 := by decide
  go_enter Try.func29, Try.ntmps29
  go_wp2_with fail
  refine (rFromInt_c (-7) _ (by omega) (by omega)).mono ?_
  rintro e w1 ⟨A1, c1, rfl, r1, b1⟩
  go_wp2_with fail
  refine (rFromInt_c 2 _ (by omega) (by omega)).mono ?_
  rintro e w2 ⟨A2, c2, rfl, r2, b2⟩
  go_wp2_with fail
  refine (IDivMod_sm (-7) 2 (-4) 1 A1 A2 c1 c2 _ (r1.lim.below b2) r2.lim (by rw [hB]; decide) (by decide) (by decide) (by decide) (by decide)).mono ?_
  rintro e w3 ⟨A3, c3, A4, c4, rfl, r3, r4, b3⟩
  go_wp2_with fail
  obtain ⟨W3, hW3, hbW3, hsz3, k3⟩ := two_boxes w3 true false (.slice A3 (limbs 4).length c3) (.slice A4 (limbs 1).length c4)
  rw [hW3]
  clear hW3
  refine (rFromInt_c (-7) _ (by omega) (by omega)).mono ?_
  rintro e w4 ⟨A5, c5, rfl, r5, b4⟩
  go_wp2_with fail
  refine (rFromInt_c (-2) _ (by omega) (by omega)).mono ?_
  rintro e w5 ⟨A6, c6, rfl, r6, b5⟩
  go_wp2_with fail
  refine (IDivMod_sm (-7) (-2) 4 1 A5 A6 c5 c6 _ (r5.lim.below b5) r6.lim (by rw [hB]; decide) (by decide) (by decide) (by decide) (by decide)).mono ?_
  rintro e w6 ⟨A7, c7, A8, c8, rfl, r7, r8, b6⟩
  go_wp2_with fail
  obtain ⟨W6, hW6, hbW6, hsz6, k6⟩ := two_boxes w6 false false (.slice A7 (limbs 4).length c7) (.slice A8 (limbs 1).length c8)
  rw [hW6]
  clear hW6
  have z3 : w3.heap.size + 2 ≤ W3.heap.size := by omega
  have z6 : w6.heap.size + 2 ≤ W6.heap.size := by omega
  have z4 := b4.size
  have z5 := b5.size
  have z7 := b6.size
  have z8 := hbW6.size
  have b36 : Below W3.heap.size W3 W6 := ((b4.trans (b5.mono b4.size)).trans (b6.mono (by omega))).trans (hbW6.mono (by omega))
  have b06 : Below w.heap.size w W6 := by
    have y1 := b1.size
    have y2 := b2.size
    have y3 := b3.size
    exact (((b1.trans (b2.mono (by omega))).trans (b3.mono (by omega))).trans (hbW3.mono (by omega))).trans (b36.mono (by omega))
  have h3 : Lim W6 A3 c3 (limbs 4) := (r3.lim.below hbW3).below b36
  have h4 : Lim W6 A4 c4 (limbs 1) := (r4.lim.below hbW3).below b36
  have h7 : Lim W6 A7 c7 (limbs 4) := r7.lim.below hbW6
  have h8 : Lim W6 A8 c8 (limbs 1) := r8.lim.below hbW6
  obtain ⟨s1, s2, s3, s4⟩ := keep2 b36 z3 k3
  obtain ⟨s5, s6, s7, s8⟩ := k6
  have j1 : w3.heap.size < W6.heap.size := by omega
  have j2 : w3.heap.size + 1 < W6.heap.size := by omega
  have j3 : w6.heap.size < W6.heap.size := by omega
  have j4 : w6.heap.size + 1 < W6.heap.size := by omega
  have l4 : (limbs 4).length ≤ 70368744177664 := Nat.le_of_lt (limbs_small (by rw [hB]; decide))
  have l1 : (limbs 1).length ≤ 70368744177664 := Nat.le_of_lt (limbs_small (by rw [hB]; decide))
  have hBel : Below W6.heap.size W6 W6.drew := (Below.refl _ _).drew
  clear r1 r2 r3 r4 r5 r6 r7 r8 b1 b2 b3 b4 b5 b6 hbW3 hbW6 hsz3 hsz6 k3 b36 z3 z4 z5 z7 z8 hB
  go_region_held3 (fun w' => w'.cell? ⟨w3.heap.size, 0, none⟩ = some (.bool true) ∧ w'.cell? ⟨w3.heap.size, 1, none⟩ = some (.slice A3 (limbs 4).length c3) ∧ w'.cell? ⟨w3.heap.size + 1, 0, none⟩ = some (.bool false) ∧ w'.cell? ⟨w3.heap.size + 1, 1, none⟩ = some (.slice A4 (limbs 1).length c4) ∧
    w'.cell? ⟨w6.heap.size, 0, none⟩ = some (.bool false) ∧ w'.cell? ⟨w6.heap.size, 1, none⟩ = some (.slice A7 (limbs 4).length c7) ∧ w'.cell? ⟨w6.heap.size + 1, 0, none⟩ = some (.bool false) ∧ w'.cell? ⟨w6.heap.size + 1, 1, none⟩ = some (.slice A8 (limbs 1).length c8))
    (first | exact ⟨cellB hBel j1 s1, cellB hBel j1 s2, cellB hBel j2 s3, cellB hBel j2 s4, cellB hBel j3 s5, cellB hBel j3 s6, cellB hBel j4 s7, cellB hBel j4 s8⟩ | go_keep)
    (first
      | (go_at_call 77; refine (rFromInt_c _ _ ?_ ?_).mono ?_; omega; omega; rintro e w' ⟨A9, c9, rfl, r9, b9⟩; replace hBel := hBel.trans (b9.mono hBel.size))
      | (go_at_call_of 31 (Value.slice A3 (limbs 4).length c3); refine (rIEq_c (-4) A3 A9 c3 c9 _ ?_ r9.lim l4).mono ?_; exact h3.below hBel; rintro e w' ⟨rfl, b9⟩; replace hBel := hBel.trans (b9.mono hBel.size))
      | (go_at_call_of 31 (Value.slice A4 (limbs 1).length c4); refine (rIEq_c (1) A4 A9 c4 c9 _ ?_ r9.lim l1).mono ?_; exact h4.below hBel; rintro e w' ⟨rfl, b9⟩; replace hBel := hBel.trans (b9.mono hBel.size))
      | (go_at_call_of 31 (Value.slice A7 (limbs 4).length c7); refine (rIEq_c (4) A7 A9 c7 c9 _ ?_ r9.lim l4).mono ?_; exact h7.below hBel; rintro e w' ⟨rfl, b9⟩; replace hBel := hBel.trans (b9.mono hBel.size))
      | (go_at_call_of 31 (Value.slice A8 (limbs 1).length c8); refine (rIEq_c (1) A8 A9 c8 c9 _ ?_ r9.lim l1).mono ?_; exact h8.below hBel; rintro e w' ⟨rfl, b9⟩; replace hBel := hBel.trans (b9.mono hBel.size)))
  go_wp2
  go_ret
  exact ⟨rfl, b06.trans (hBel.mono b06.size)⟩

end Go.Proofs.Ytkpchamgghhihaa
