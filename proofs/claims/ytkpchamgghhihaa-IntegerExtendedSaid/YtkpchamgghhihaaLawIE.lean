/- The walk of the statement IntegerExtended: it returns true. -/
import Derived.Test.YtkpchamgghhihaaExtB
import Derived.Test.YtkpchamgghhihaaRefM
namespace Go.Proofs.Ytkpchamgghhihaa
open Go.RowKit Gm

theorem boxes3i (w : World) (p q r : Bool) (u v t : Value) :
    ∃ W, ((w.alloc (.cells #[.bool p, u] 38)).alloc (.cells #[.bool q, v] 38)).alloc (.cells #[.bool r, t] 38) = W ∧ Below w.heap.size w W ∧ IntAt W w.heap.size p u ∧ IntAt W (w.heap.size + 1) q v ∧ IntAt W (w.heap.size + 1 + 1) r t := by
  refine ⟨_, rfl, (((Below.refl _ _).alloc (Nat.le_refl _) _).alloc (by simp) _).alloc (by simp; omega) _, ?_, ?_, ?_⟩
  · refine ⟨?_, ?_, ?_, ?_⟩ <;> go_simp
  · refine ⟨?_, ?_, ?_, ?_⟩ <;> go_simp
  · refine ⟨?_, ?_, ?_, ?_⟩ <;> go_simp
set_option maxRecDepth 100000 in
set_option maxHeartbeats 4000000 in
theorem iextended_walk (p0 : Bool) (A0 : Option Addr) (xs0 : List Nat) (c0 : Nat) (p1 : Bool) (A1 : Option Addr) (xs1 : List Nat) (c1 : Nat) (w : World) (h0 : Lim w A0 c0 xs0) (h1 : Lim w A1 c1 xs1) (k0 : xs0.length ≤ 35184372087808) (k1 : xs1.length ≤ 35184372087808) :
    Calls Try.prog 5 #[.agg #[.bool p0, .slice A0 xs0.length c0], .agg #[.bool p1, .slice A1 xs1.length c1]] w (RetB w true) := by
  obtain ⟨a, ea⟩ : ∃ s, iv p0 xs0 = s := ⟨_, rfl⟩
  obtain ⟨b, eb⟩ : ∃ s, iv p1 xs1 = s := ⟨_, rfl⟩
  have za : (limbs a.natAbs).length ≤ 35184372087808 := by rw [← ea]; exact iv_len h0.lb k0
  have zb : (limbs b.natAbs).length ≤ 35184372087808 := by rw [← eb]; exact iv_len h1.lb k1
  have Ea := Lib.hid ea
  have Eb := Lib.hid eb
  clear ea eb
  go_enter Try.func5, Try.ntmps5
  go_wp2_with fail
  obtain ⟨W, hW, hbW, hsz, cf0, cf1, cf2, cf3⟩ := two_boxes w p0 p1 (.slice A0 xs0.length c0) (.slice A1 xs1.length c1)
  rw [hW]
  clear hW
  have j0 : w.heap.size < W.heap.size := by omega
  have j1 : w.heap.size + 1 < W.heap.size := by omega
  clear hsz
  replace h0 := h0.below hbW
  replace h1 := h1.below hbW
  refine (Extended_c p0 p1 A0 A1 xs0 xs1 c0 c1 W h0 h1 k0 k1).mono ?_
  rintro e w1 ⟨g, x, y, Ag, cg, Ax, cx, Ay, cy, rfl, rg, rx, ry, hz, b1⟩
  rw [Ea.out, Eb.out] at hz
  have HZ := Lib.hid hz
  have EG := Lib.hid hz.gg
  have zg : (limbs g.natAbs).length ≤ 35184372087808 := by rw [← hz.gg, Int.natAbs_natCast]; exact gcd_sz za zb rfl (Nat.le_refl _)
  obtain ⟨W2, hW2, hbW2, ig, ix, iy⟩ := boxes3i w1 (decide (g < 0)) (decide (x < 0)) (decide (y < 0)) (.slice Ag (limbs g.natAbs).length cg) (.slice Ax (limbs x.natAbs).length cx) (.slice Ay (limbs y.natAbs).length cy)
  have b2 : Below W.heap.size W W2 := b1.trans (hbW2.mono b1.size)
  replace cf0 := cellB b2 j0 cf0
  replace cf1 := cellB b2 j0 cf1
  replace cf2 := cellB b2 j1 cf2
  replace cf3 := cellB b2 j1 cf3
  replace j0 := Nat.lt_of_lt_of_le j0 b2.size
  replace j1 := Nat.lt_of_lt_of_le j1 b2.size
  replace h0 := h0.below b2
  replace h1 := h1.below b2
  have lg := rg.lim.below hbW2
  have lx := rx.lim.below hbW2
  have ly := ry.lim.below hbW2
  have j2 := ig.lt
  have j3 := ix.lt
  have j4 := iy.lt
  obtain ⟨cf4, cf5, _, _⟩ := ig
  obtain ⟨cf6, cf7, _, _⟩ := ix
  obtain ⟨cf8, cf9, _, _⟩ := iy
  have hend : Below w.heap.size w W2 := hbW.trans (b2.mono hbW.size)
  clear hz b1 b2 hbW2 rg rx ry hbW
  go_wp2_with fail
  try rw [hW2]
  clear hW2
  have hBel : Below W2.heap.size W2 W2.drew := (Below.refl _ _).drew
  go_region_held3 (fun w' => w'.cell? ⟨w.heap.size, 0, none⟩ = some (.bool p0) ∧ w'.cell? ⟨w.heap.size, 1, none⟩ = some (.slice A0 xs0.length c0) ∧ w'.cell? ⟨w.heap.size + 1, 0, none⟩ = some (.bool p1) ∧ w'.cell? ⟨w.heap.size + 1, 1, none⟩ = some (.slice A1 xs1.length c1) ∧ w'.cell? ⟨w1.heap.size, 0, none⟩ = some (.bool (decide (g < 0))) ∧ w'.cell? ⟨w1.heap.size, 1, none⟩ = some (.slice Ag (limbs g.natAbs).length cg) ∧ w'.cell? ⟨w1.heap.size + 1, 0, none⟩ = some (.bool (decide (x < 0))) ∧ w'.cell? ⟨w1.heap.size + 1, 1, none⟩ = some (.slice Ax (limbs x.natAbs).length cx) ∧ w'.cell? ⟨w1.heap.size + 1 + 1, 0, none⟩ = some (.bool (decide (y < 0))) ∧ w'.cell? ⟨w1.heap.size + 1 + 1, 1, none⟩ = some (.slice Ay (limbs y.natAbs).length cy))
    (first | (with_reducible exact ⟨cellB hBel j0 cf0, cellB hBel j0 cf1, cellB hBel j1 cf2, cellB hBel j1 cf3, cellB hBel j2 cf4, cellB hBel j2 cf5, cellB hBel j3 cf6, cellB hBel j3 cf7, cellB hBel j4 cf8, cellB hBel j4 cf9⟩) | go_keep)
    (first
      | (go_at_call 29; refine (awake2_c _).mono ?_; rintro e w3 ⟨rfl, b3⟩; replace hBel := hBel.trans (b3.mono hBel.size))
      | (go_at_call 27; refine (IGCD_n p0 p1 A0 A1 xs0 xs1 c0 c1 _ a b g 35184372087808 35184372087808 ?_ ?_ k0 k1 Ea.out Eb.out EG.out (by omega) (by omega)).mono ?_; exact h0.below hBel; exact h1.below hBel; rintro e w4 ⟨A4, c4, rfl, r4, b4⟩; replace hBel := hBel.trans (b4.mono hBel.size))
      | (go_at_call 32; refine (rIGCD_n p0 p1 A0 A1 xs0 xs1 c0 c1 _ a b g 35184372087808 35184372087808 ?_ ?_ k0 k1 Ea.out Eb.out EG.out (by omega) (by omega)).mono ?_; exact h0.below hBel; exact h1.below hBel; rintro e w5 ⟨A5, c5, rfl, r5, b5⟩; replace hBel := hBel.trans (b5.mono hBel.size))
      | (go_at_call 31; refine (rIEq_c g A4 A5 c4 c5 _ ?_ ?_ (by omega)).mono ?_; exact r4.lim.below b5; exact r5.lim; rintro e w6 ⟨rfl, b6⟩; replace hBel := hBel.trans (b6.mono hBel.size))
      | (go_at_call 33; refine (Bezout_c p0 p1 A0 A1 xs0 xs1 c0 c1 _ a b g x y Ag Ax Ay cg cx cy ?_ ?_ ?_ ?_ ?_ k0 k1 Ea.out Eb.out HZ.out).mono ?_; exact h0.below hBel; exact h1.below hBel; exact lg.below hBel; exact lx.below hBel; exact ly.below hBel; rintro e w7 ⟨rfl, b7⟩; replace hBel := hBel.trans (b7.mono hBel.size)))
  rename_i hHeld
  clear hHeld
  go_wp2
  go_ret
  exact ⟨rfl, hend.trans (hBel.mono hend.size)⟩
end Go.Proofs.Ytkpchamgghhihaa
