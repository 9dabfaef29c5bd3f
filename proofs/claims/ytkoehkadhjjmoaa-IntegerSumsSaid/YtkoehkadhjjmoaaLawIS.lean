/- The walk of the statement IntegerSums: it returns true. -/
import Derived.Test.YtkoehkadhjjmoaaRefF
namespace Go.Proofs.Ytkoehkadhjjmoaa
open Go.RowKit Gm

set_option maxRecDepth 100000 in
set_option maxHeartbeats 4000000 in
theorem sums_walk (p0 : Bool) (A0 : Option Addr) (xs0 : List Nat) (c0 : Nat) (p1 : Bool) (A1 : Option Addr) (xs1 : List Nat) (c1 : Nat) (w : World) (h0 : Lim w A0 c0 xs0) (h1 : Lim w A1 c1 xs1) (k0 : xs0.length ≤ 35184372087808) (k1 : xs1.length ≤ 35184372087808) :
    Calls Try.prog 5 #[.agg #[.bool p0, .slice A0 xs0.length c0], .agg #[.bool p1, .slice A1 xs1.length c1]] w (RetB w true) := by
  obtain ⟨a, ea⟩ : ∃ s, iv p0 xs0 = s := ⟨_, rfl⟩
  have za : (limbs a.natAbs).length ≤ 35184372087808 := by rw [← ea]; exact iv_len h0.lb k0
  obtain ⟨b, eb⟩ : ∃ s, iv p1 xs1 = s := ⟨_, rfl⟩
  have zb : (limbs b.natAbs).length ≤ 35184372087808 := by rw [← eb]; exact iv_len h1.lb k1
  obtain ⟨m0, em0⟩ : ∃ s, -a = s := ⟨_, rfl⟩
  have zm0 := ineg_sz za em0
  have en0 : -a = m0 := by grind
  obtain ⟨m1, em1⟩ : ∃ s, ((a.natAbs : Nat) : Int) = s := ⟨_, rfl⟩
  have zm1 := iabs_sz za em1
  have en1 : ((a.natAbs : Nat) : Int) = m1 := by grind
  obtain ⟨m2, em2⟩ : ∃ s, a + b = s := ⟨_, rfl⟩
  have zm2 := isum_sz (j := 35184372087809) za zb em2 (by omega) (by omega)
  have en2 : a + b = m2 := by grind
  obtain ⟨m3, em3⟩ : ∃ s, a - b = s := ⟨_, rfl⟩
  have zm3 := isub_sz (j := 35184372087809) za zb em3 (by omega) (by omega)
  have en3 : a - b = m3 := by grind
  obtain ⟨m4, em4⟩ : ∃ s, a * b = s := ⟨_, rfl⟩
  have zm4 := imul_sz (j := 70368744175616) za zb em4 (by omega)
  have en4 : a * b = m4 := by grind
  have Ea := Lib.hid ea
  have Eb := Lib.hid eb
  have Em0 := Lib.hid em0
  have En0 := Lib.hid en0
  have Em1 := Lib.hid em1
  have En1 := Lib.hid en1
  have Em2 := Lib.hid em2
  have En2 := Lib.hid en2
  have Em3 := Lib.hid em3
  have En3 := Lib.hid en3
  have Em4 := Lib.hid em4
  have En4 := Lib.hid en4
  clear ea eb em0 en0 em1 en1 em2 en2 em3 en3 em4 en4
  have tk0 : True := trivial
  have tk1 : True := trivial
  have tk2 : True := trivial
  have tk3 : True := trivial
  have tk4 : True := trivial
  have tk5 : True := trivial
  have tk6 : True := trivial
  have tk7 : True := trivial
  have tk8 : True := trivial
  have tk9 : True := trivial
  have tk10 : True := trivial
  have tk11 : True := trivial
  have tk12 : True := trivial
  have tk13 : True := trivial
  have tk14 : True := trivial
  have tk15 : True := trivial
  go_enter Try.func5, Try.ntmps5
  go_wp2_with fail
  obtain ⟨W, hW, hbW, hsz, cf0, cf1, cf2, cf3⟩ := two_boxes w p0 p1 (.slice A0 xs0.length c0) (.slice A1 xs1.length c1)
  rw [hW]
  clear hW
  have j0 : w.heap.size < W.heap.size := by omega
  have j1 : w.heap.size + 1 < W.heap.size := by omega
  clear hsz
  replace h0 := h0.below hbW
  replace h1 := h1.below hbW
  have hBel : Below W.heap.size W W := Below.refl _ _
  replace hBel := hBel.drew
  go_region_held3 (fun w' => w'.cell? ⟨w.heap.size, 0, none⟩ = some (.bool p0) ∧ w'.cell? ⟨w.heap.size, 1, none⟩ = some (.slice A0 xs0.length c0) ∧ w'.cell? ⟨w.heap.size + 1, 0, none⟩ = some (.bool p1) ∧ w'.cell? ⟨w.heap.size + 1, 1, none⟩ = some (.slice A1 xs1.length c1))
    (first | exact ⟨cellB hBel j0 cf0, cellB hBel j0 cf1, cellB hBel j1 cf2, cellB hBel j1 cf3⟩ | go_keep)
    (first
      | (go_at_call 24; have _t := tk0; clear tk0; refine (awake2_c _).mono ?_; rintro e w' ⟨rfl, b9⟩; replace hBel := hBel.trans (b9.mono hBel.size))
      | (go_at_call 30; have _t := tk1; clear tk1; refine (INeg_n p0 A0 xs0 c0 _ a m0 35184372087808 ?_ k0 Ea.out Em0.out (by omega)).mono ?_; exact h0.below hBel; rintro e wm0 ⟨Am0, cm0, rfl, rm0, b9⟩; replace hBel := hBel.trans (b9.mono hBel.size); have E_m0 := Below.refl wm0.heap.size wm0)
      | (go_at_call 33; have _t := tk2; clear tk2; refine (rNeg_n p0 A0 xs0 c0 _ a m0 35184372087808 ?_ k0 Ea.out En0.out (by omega)).mono ?_; exact h0.below hBel; rintro e wn0 ⟨An0, cn0, rfl, rn0, b9⟩; replace hBel := hBel.trans (b9.mono hBel.size); replace E_m0 := E_m0.trans (b9.mono E_m0.size); have E_n0 := Below.refl wn0.heap.size wn0)
      | (go_at_call 28; have _t := tk3; clear tk3; refine (rIEq_c m0 Am0 An0 cm0 cn0 _ ?_ ?_ ?_).mono ?_; exact rm0.lim.below E_m0; exact rn0.lim.below E_n0; exact Nat.le_trans zm0 (by omega); rintro e w' ⟨rfl, b9⟩; replace hBel := hBel.trans (b9.mono hBel.size))
      | (go_at_call 34; have _t := tk4; clear tk4; refine (IAbs_n p0 A0 xs0 c0 _ a m1 35184372087808 ?_ k0 Ea.out Em1.out (by omega)).mono ?_; exact h0.below hBel; rintro e wm1 ⟨Am1, cm1, rfl, rm1, b9⟩; replace hBel := hBel.trans (b9.mono hBel.size); have E_m1 := Below.refl wm1.heap.size wm1)
      | (go_at_call 35; have _t := tk5; clear tk5; refine (rAbs_n p0 A0 xs0 c0 _ a m1 35184372087808 ?_ k0 Ea.out En1.out (by omega)).mono ?_; exact h0.below hBel; rintro e wn1 ⟨An1, cn1, rfl, rn1, b9⟩; replace hBel := hBel.trans (b9.mono hBel.size); replace E_m1 := E_m1.trans (b9.mono E_m1.size); have E_n1 := Below.refl wn1.heap.size wn1)
      | (go_at_call 28; have _t := tk6; clear tk6; refine (rIEq_c m1 Am1 An1 cm1 cn1 _ ?_ ?_ ?_).mono ?_; exact rm1.lim.below E_m1; exact rn1.lim.below E_n1; exact Nat.le_trans zm1 (by omega); rintro e w' ⟨rfl, b9⟩; replace hBel := hBel.trans (b9.mono hBel.size))
      | (go_at_call 27; have _t := tk7; clear tk7; refine (IAdd_n p0 p1 A0 A1 xs0 xs1 c0 c1 _ a b m2 35184372087808 35184372087808 ?_ ?_ k0 k1 Ea.out Eb.out Em2.out (by omega) (by omega)).mono ?_; exact h0.below hBel; exact h1.below hBel; rintro e wm2 ⟨Am2, cm2, rfl, rm2, b9⟩; replace hBel := hBel.trans (b9.mono hBel.size); have E_m2 := Below.refl wm2.heap.size wm2)
      | (go_at_call 36; have _t := tk8; clear tk8; refine (rIAdd_n p0 p1 A0 A1 xs0 xs1 c0 c1 _ a b m2 35184372087808 35184372087808 ?_ ?_ k0 k1 Ea.out Eb.out En2.out (by omega) (by omega)).mono ?_; exact h0.below hBel; exact h1.below hBel; rintro e wn2 ⟨An2, cn2, rfl, rn2, b9⟩; replace hBel := hBel.trans (b9.mono hBel.size); replace E_m2 := E_m2.trans (b9.mono E_m2.size); have E_n2 := Below.refl wn2.heap.size wn2)
      | (go_at_call 28; have _t := tk9; clear tk9; refine (rIEq_c m2 Am2 An2 cm2 cn2 _ ?_ ?_ ?_).mono ?_; exact rm2.lim.below E_m2; exact rn2.lim.below E_n2; exact Nat.le_trans zm2 (by omega); rintro e w' ⟨rfl, b9⟩; replace hBel := hBel.trans (b9.mono hBel.size))
      | (go_at_call 26; have _t := tk10; clear tk10; refine (ISub_n p0 p1 A0 A1 xs0 xs1 c0 c1 _ a b m3 35184372087808 35184372087808 ?_ ?_ k0 k1 Ea.out Eb.out Em3.out (by omega) (by omega)).mono ?_; exact h0.below hBel; exact h1.below hBel; rintro e wm3 ⟨Am3, cm3, rfl, rm3, b9⟩; replace hBel := hBel.trans (b9.mono hBel.size); have E_m3 := Below.refl wm3.heap.size wm3)
      | (go_at_call 37; have _t := tk11; clear tk11; refine (rISub_n p0 p1 A0 A1 xs0 xs1 c0 c1 _ a b m3 35184372087808 35184372087808 ?_ ?_ k0 k1 Ea.out Eb.out En3.out (by omega) (by omega)).mono ?_; exact h0.below hBel; exact h1.below hBel; rintro e wn3 ⟨An3, cn3, rfl, rn3, b9⟩; replace hBel := hBel.trans (b9.mono hBel.size); replace E_m3 := E_m3.trans (b9.mono E_m3.size); have E_n3 := Below.refl wn3.heap.size wn3)
      | (go_at_call 28; have _t := tk12; clear tk12; refine (rIEq_c m3 Am3 An3 cm3 cn3 _ ?_ ?_ ?_).mono ?_; exact rm3.lim.below E_m3; exact rn3.lim.below E_n3; exact Nat.le_trans zm3 (by omega); rintro e w' ⟨rfl, b9⟩; replace hBel := hBel.trans (b9.mono hBel.size))
      | (go_at_call 29; have _t := tk13; clear tk13; refine (IMul_n p0 p1 A0 A1 xs0 xs1 c0 c1 _ a b m4 35184372087808 35184372087808 ?_ ?_ k0 k1 Ea.out Eb.out Em4.out (by omega)).mono ?_; exact h0.below hBel; exact h1.below hBel; rintro e wm4 ⟨Am4, cm4, rfl, rm4, b9⟩; replace hBel := hBel.trans (b9.mono hBel.size); have E_m4 := Below.refl wm4.heap.size wm4)
      | (go_at_call 38; have _t := tk14; clear tk14; refine (rIMul_n p0 p1 A0 A1 xs0 xs1 c0 c1 _ a b m4 35184372087808 35184372087808 ?_ ?_ k0 k1 Ea.out Eb.out En4.out (by omega)).mono ?_; exact h0.below hBel; exact h1.below hBel; rintro e wn4 ⟨An4, cn4, rfl, rn4, b9⟩; replace hBel := hBel.trans (b9.mono hBel.size); replace E_m4 := E_m4.trans (b9.mono E_m4.size); have E_n4 := Below.refl wn4.heap.size wn4)
      | (go_at_call 28; have _t := tk15; clear tk15; refine (rIEq_c m4 Am4 An4 cm4 cn4 _ ?_ ?_ ?_).mono ?_; exact rm4.lim.below E_m4; exact rn4.lim.below E_n4; exact Nat.le_trans zm4 (by omega); rintro e w' ⟨rfl, b9⟩; replace hBel := hBel.trans (b9.mono hBel.size)))
  rename_i hHeld
  clear hHeld
  go_wp2
  go_ret
  exact ⟨rfl, hbW.trans (hBel.mono hbW.size)⟩

end Go.Proofs.Ytkoehkadhjjmoaa
