/- The walk of the statement IntegerRing: it returns true. -/
import Derived.Test.YtkoehkadhjjmoaaIntW
namespace Go.Proofs.Ytkoehkadhjjmoaa
open Go.RowKit Gm

set_option maxRecDepth 100000 in
set_option maxHeartbeats 4000000 in
theorem ring_walk (p0 : Bool) (A0 : Option Addr) (xs0 : List Nat) (c0 : Nat) (p1 : Bool) (A1 : Option Addr) (xs1 : List Nat) (c1 : Nat) (p2 : Bool) (A2 : Option Addr) (xs2 : List Nat) (c2 : Nat) (w : World) (h0 : Lim w A0 c0 xs0) (h1 : Lim w A1 c1 xs1) (h2 : Lim w A2 c2 xs2) (k0 : xs0.length ≤ 1048576) (k1 : xs1.length ≤ 1048576) (k2 : xs2.length ≤ 1048576) :
    Calls Try.prog 4 #[.agg #[.bool p0, .slice A0 xs0.length c0], .agg #[.bool p1, .slice A1 xs1.length c1], .agg #[.bool p2, .slice A2 xs2.length c2]] w (RetB w true) := by
  obtain ⟨a, ea⟩ : ∃ s, iv p0 xs0 = s := ⟨_, rfl⟩
  have za : (limbs a.natAbs).length ≤ 1048576 := by rw [← ea]; exact iv_len h0.lb k0
  obtain ⟨b, eb⟩ : ∃ s, iv p1 xs1 = s := ⟨_, rfl⟩
  have zb : (limbs b.natAbs).length ≤ 1048576 := by rw [← eb]; exact iv_len h1.lb k1
  obtain ⟨c, ec⟩ : ∃ s, iv p2 xs2 = s := ⟨_, rfl⟩
  have zc : (limbs c.natAbs).length ≤ 1048576 := by rw [← ec]; exact iv_len h2.lb k2
  obtain ⟨zz, ezz⟩ : ∃ s : Int, 0 = s := ⟨_, rfl⟩
  have zzz : (limbs zz.natAbs).length ≤ 2 := by rw [← ezz]; simp [limbs_zero]
  obtain ⟨t1, et1⟩ : ∃ s, a + b = s := ⟨_, rfl⟩
  have zt1 := isum_sz (j := 1048577) za zb et1 (by omega) (by omega)
  obtain ⟨t2, et2⟩ : ∃ s, t1 + c = s := ⟨_, rfl⟩
  have zt2 := isum_sz (j := 1048578) zt1 zc et2 (by omega) (by omega)
  obtain ⟨t3, et3⟩ : ∃ s, b + c = s := ⟨_, rfl⟩
  have zt3 := isum_sz (j := 1048577) zb zc et3 (by omega) (by omega)
  have et4 : a + t3 = t2 := by grind
  obtain ⟨u1, eu1⟩ : ∃ s, a * b = s := ⟨_, rfl⟩
  have zu1 := imul_sz (j := 2097152) za zb eu1 (by omega)
  obtain ⟨u2, eu2⟩ : ∃ s, u1 * c = s := ⟨_, rfl⟩
  have zu2 := imul_sz (j := 3145728) zu1 zc eu2 (by omega)
  obtain ⟨u3, eu3⟩ : ∃ s, b * c = s := ⟨_, rfl⟩
  have zu3 := imul_sz (j := 2097152) zb zc eu3 (by omega)
  have eu4 : a * u3 = u2 := by grind
  obtain ⟨x1, ex1⟩ : ∃ s, a + b = s := ⟨_, rfl⟩
  have zx1 := isum_sz (j := 1048577) za zb ex1 (by omega) (by omega)
  have ex2 : b + a = x1 := by grind
  obtain ⟨y1, ey1⟩ : ∃ s, a * b = s := ⟨_, rfl⟩
  have zy1 := imul_sz (j := 2097152) za zb ey1 (by omega)
  have ey2 : b * a = y1 := by grind
  obtain ⟨z1, ez1⟩ : ∃ s, b + c = s := ⟨_, rfl⟩
  have zz1 := isum_sz (j := 1048577) zb zc ez1 (by omega) (by omega)
  obtain ⟨z2, ez2⟩ : ∃ s, a * z1 = s := ⟨_, rfl⟩
  have zz2 := imul_sz (j := 2097153) za zz1 ez2 (by omega)
  obtain ⟨z3, ez3⟩ : ∃ s, a * b = s := ⟨_, rfl⟩
  have zz3 := imul_sz (j := 2097152) za zb ez3 (by omega)
  obtain ⟨z4, ez4⟩ : ∃ s, a * c = s := ⟨_, rfl⟩
  have zz4 := imul_sz (j := 2097152) za zc ez4 (by omega)
  have ez5 : z3 + z4 = z2 := by grind
  obtain ⟨n1, en1⟩ : ∃ s, -a = s := ⟨_, rfl⟩
  have zn1 := ineg_sz za en1
  have en2 : a + n1 = zz := by grind
  obtain ⟨s1, es1⟩ : ∃ s, a + b = s := ⟨_, rfl⟩
  have zs1 := isum_sz (j := 1048577) za zb es1 (by omega) (by omega)
  have es2 : s1 - b = a := by grind
  have Ea := Lib.hid ea
  have Eb := Lib.hid eb
  have Ec := Lib.hid ec
  have Ezz := Lib.hid ezz
  have Et1 := Lib.hid et1
  have Et2 := Lib.hid et2
  have Et3 := Lib.hid et3
  have Et4 := Lib.hid et4
  have Eu1 := Lib.hid eu1
  have Eu2 := Lib.hid eu2
  have Eu3 := Lib.hid eu3
  have Eu4 := Lib.hid eu4
  have Ex1 := Lib.hid ex1
  have Ex2 := Lib.hid ex2
  have Ey1 := Lib.hid ey1
  have Ey2 := Lib.hid ey2
  have Ez1 := Lib.hid ez1
  have Ez2 := Lib.hid ez2
  have Ez3 := Lib.hid ez3
  have Ez4 := Lib.hid ez4
  have Ez5 := Lib.hid ez5
  have En1 := Lib.hid en1
  have En2 := Lib.hid en2
  have Es1 := Lib.hid es1
  have Es2 := Lib.hid es2
  clear ea eb ec ezz et1 et2 et3 et4 eu1 eu2 eu3 eu4 ex1 ex2 ey1 ey2 ez1 ez2 ez3 ez4 ez5 en1 en2 es1 es2
  have tk0 : True := trivial
  have tk1 : True := trivial
  have tk2 : True := trivial
  have tk3 : True := trivial
  have tk4 : True := trivial
  have tk5 : True := trivial
  have tk6 : True := trivial
  have tk7 : True := trivial
  have tk8 : True := trivial
  have tk9 : True := trivial
  have tk10 : True := trivial
  have tk11 : True := trivial
  have tk12 : True := trivial
  have tk13 : True := trivial
  have tk14 : True := trivial
  have tk15 : True := trivial
  have tk16 : True := trivial
  have tk17 : True := trivial
  have tk18 : True := trivial
  have tk19 : True := trivial
  have tk20 : True := trivial
  have tk21 : True := trivial
  have tk22 : True := trivial
  have tk23 : True := trivial
  have tk24 : True := trivial
  have tk25 : True := trivial
  have tk26 : True := trivial
  have tk27 : True := trivial
  have tk28 : True := trivial
  have tk29 : True := trivial
  have tk30 : True := trivial
  go_enter Try.func4, Try.ntmps4
  go_wp2_with fail
  obtain ⟨W, hW, hbW, hsz, cf0, cf1, cf2, cf3, cf4, cf5⟩ := boxes3 w p0 p1 p2 (.slice A0 xs0.length c0) (.slice A1 xs1.length c1) (.slice A2 xs2.length c2)
  rw [hW]
  clear hW
  have j0 : w.heap.size < W.heap.size := by omega
  have j1 : w.heap.size + 1 < W.heap.size := by omega
  have j2 : w.heap.size + 1 + 1 < W.heap.size := by omega
  clear hsz
  replace h0 := h0.below hbW
  replace h1 := h1.below hbW
  replace h2 := h2.below hbW
  have hBel : Below W.heap.size W W := Below.refl _ _
  replace hBel := hBel.drew
  go_region_held3 (fun w' => w'.cell? ⟨w.heap.size, 0, none⟩ = some (.bool p0) ∧ w'.cell? ⟨w.heap.size, 1, none⟩ = some (.slice A0 xs0.length c0) ∧ w'.cell? ⟨w.heap.size + 1, 0, none⟩ = some (.bool p1) ∧ w'.cell? ⟨w.heap.size + 1, 1, none⟩ = some (.slice A1 xs1.length c1) ∧ w'.cell? ⟨w.heap.size + 1 + 1, 0, none⟩ = some (.bool p2) ∧ w'.cell? ⟨w.heap.size + 1 + 1, 1, none⟩ = some (.slice A2 xs2.length c2))
    (first | exact ⟨cellB hBel j0 cf0, cellB hBel j0 cf1, cellB hBel j1 cf2, cellB hBel j1 cf3, cellB hBel j2 cf4, cellB hBel j2 cf5⟩ | go_keep)
    (first
      | (go_at_call 24; have _t := tk0; clear tk0; refine (awake2_c _).mono ?_; rintro e w' ⟨rfl, b9⟩; replace hBel := hBel.trans (b9.mono hBel.size))
      | (go_at_call 27; have _t := tk1; clear tk1; refine (IAdd_n p0 p1 A0 A1 xs0 xs1 c0 c1 _ a b t1 1048576 1048576 ?_ ?_ k0 k1 Ea.out Eb.out Et1.out (by omega) (by omega)).mono ?_; exact h0.below hBel; exact h1.below hBel; rintro e wt1 ⟨At1, ct1, rfl, rt1, b9⟩; replace hBel := hBel.trans (b9.mono hBel.size); have E_t1 := Below.refl wt1.heap.size wt1)
      | (go_at_call 27; have _t := tk2; clear tk2; refine (IAdd_n (decide (t1 < 0)) p2 At1 A2 (limbs t1.natAbs) xs2 ct1 c2 _ t1 c t2 1048577 1048576 ?_ ?_ zt1 k2 (iv_canon t1) Ec.out Et2.out (by omega) (by omega)).mono ?_; exact rt1.lim.below E_t1; exact h2.below hBel; rintro e wt2 ⟨At2, ct2, rfl, rt2, b9⟩; replace hBel := hBel.trans (b9.mono hBel.size); have E_t2 := Below.refl wt2.heap.size wt2)
      | (go_at_call 27; have _t := tk3; clear tk3; refine (IAdd_n p1 p2 A1 A2 xs1 xs2 c1 c2 _ b c t3 1048576 1048576 ?_ ?_ k1 k2 Eb.out Ec.out Et3.out (by omega) (by omega)).mono ?_; exact h1.below hBel; exact h2.below hBel; rintro e wt3 ⟨At3, ct3, rfl, rt3, b9⟩; replace hBel := hBel.trans (b9.mono hBel.size); replace E_t2 := E_t2.trans (b9.mono E_t2.size); have E_t3 := Below.refl wt3.heap.size wt3)
      | (go_at_call 27; have _t := tk4; clear tk4; refine (IAdd_n p0 (decide (t3 < 0)) A0 At3 xs0 (limbs t3.natAbs) c0 ct3 _ a t3 t2 1048576 1048577 ?_ ?_ k0 zt3 Ea.out (iv_canon t3) Et4.out (by omega) (by omega)).mono ?_; exact h0.below hBel; exact rt3.lim.below E_t3; rintro e wt4 ⟨At4, ct4, rfl, rt4, b9⟩; replace hBel := hBel.trans (b9.mono hBel.size); replace E_t2 := E_t2.trans (b9.mono E_t2.size); have E_t4 := Below.refl wt4.heap.size wt4)
      | (go_at_call 28; have _t := tk5; clear tk5; refine (rIEq_c t2 At2 At4 ct2 ct4 _ ?_ ?_ ?_).mono ?_; exact rt2.lim.below E_t2; exact rt4.lim.below E_t4; exact Nat.le_trans zt2 (by omega); rintro e w' ⟨rfl, b9⟩; replace hBel := hBel.trans (b9.mono hBel.size))
      | (go_at_call 29; have _t := tk6; clear tk6; refine (IMul_n p0 p1 A0 A1 xs0 xs1 c0 c1 _ a b u1 1048576 1048576 ?_ ?_ k0 k1 Ea.out Eb.out Eu1.out (by omega)).mono ?_; exact h0.below hBel; exact h1.below hBel; rintro e wu1 ⟨Au1, cu1, rfl, ru1, b9⟩; replace hBel := hBel.trans (b9.mono hBel.size); have E_u1 := Below.refl wu1.heap.size wu1)
      | (go_at_call 29; have _t := tk7; clear tk7; refine (IMul_n (decide (u1 < 0)) p2 Au1 A2 (limbs u1.natAbs) xs2 cu1 c2 _ u1 c u2 2097152 1048576 ?_ ?_ zu1 k2 (iv_canon u1) Ec.out Eu2.out (by omega)).mono ?_; exact ru1.lim.below E_u1; exact h2.below hBel; rintro e wu2 ⟨Au2, cu2, rfl, ru2, b9⟩; replace hBel := hBel.trans (b9.mono hBel.size); have E_u2 := Below.refl wu2.heap.size wu2)
      | (go_at_call 29; have _t := tk8; clear tk8; refine (IMul_n p1 p2 A1 A2 xs1 xs2 c1 c2 _ b c u3 1048576 1048576 ?_ ?_ k1 k2 Eb.out Ec.out Eu3.out (by omega)).mono ?_; exact h1.below hBel; exact h2.below hBel; rintro e wu3 ⟨Au3, cu3, rfl, ru3, b9⟩; replace hBel := hBel.trans (b9.mono hBel.size); replace E_u2 := E_u2.trans (b9.mono E_u2.size); have E_u3 := Below.refl wu3.heap.size wu3)
      | (go_at_call 29; have _t := tk9; clear tk9; refine (IMul_n p0 (decide (u3 < 0)) A0 Au3 xs0 (limbs u3.natAbs) c0 cu3 _ a u3 u2 1048576 2097152 ?_ ?_ k0 zu3 Ea.out (iv_canon u3) Eu4.out (by omega)).mono ?_; exact h0.below hBel; exact ru3.lim.below E_u3; rintro e wu4 ⟨Au4, cu4, rfl, ru4, b9⟩; replace hBel := hBel.trans (b9.mono hBel.size); replace E_u2 := E_u2.trans (b9.mono E_u2.size); have E_u4 := Below.refl wu4.heap.size wu4)
      | (go_at_call 28; have _t := tk10; clear tk10; refine (rIEq_c u2 Au2 Au4 cu2 cu4 _ ?_ ?_ ?_).mono ?_; exact ru2.lim.below E_u2; exact ru4.lim.below E_u4; exact Nat.le_trans zu2 (by omega); rintro e w' ⟨rfl, b9⟩; replace hBel := hBel.trans (b9.mono hBel.size)))
  rename_i hHeld
  clear hHeld
  have v00 := cellB hBel j0 cf0
  have v01 := cellB hBel j0 cf1
  have v02 := cellB hBel j1 cf2
  have v03 := cellB hBel j1 cf3
  have v04 := cellB hBel j2 cf4
  have v05 := cellB hBel j2 cf5
  go_wp2_with fail
  replace hBel := hBel.drew
  go_region_held3 (fun w' => w'.cell? ⟨w.heap.size, 0, none⟩ = some (.bool p0) ∧ w'.cell? ⟨w.heap.size, 1, none⟩ = some (.slice A0 xs0.length c0) ∧ w'.cell? ⟨w.heap.size + 1, 0, none⟩ = some (.bool p1) ∧ w'.cell? ⟨w.heap.size + 1, 1, none⟩ = some (.slice A1 xs1.length c1) ∧ w'.cell? ⟨w.heap.size + 1 + 1, 0, none⟩ = some (.bool p2) ∧ w'.cell? ⟨w.heap.size + 1 + 1, 1, none⟩ = some (.slice A2 xs2.length c2))
    (first | exact ⟨cellB hBel j0 cf0, cellB hBel j0 cf1, cellB hBel j1 cf2, cellB hBel j1 cf3, cellB hBel j2 cf4, cellB hBel j2 cf5⟩ | go_keep)
    (first
      | (go_at_call 27; have _t := tk11; clear tk11; refine (IAdd_n p0 p1 A0 A1 xs0 xs1 c0 c1 _ a b x1 1048576 1048576 ?_ ?_ k0 k1 Ea.out Eb.out Ex1.out (by omega) (by omega)).mono ?_; exact h0.below hBel; exact h1.below hBel; rintro e wx1 ⟨Ax1, cx1, rfl, rx1, b9⟩; replace hBel := hBel.trans (b9.mono hBel.size); have E_x1 := Below.refl wx1.heap.size wx1)
      | (go_at_call 27; have _t := tk12; clear tk12; refine (IAdd_n p1 p0 A1 A0 xs1 xs0 c1 c0 _ b a x1 1048576 1048576 ?_ ?_ k1 k0 Eb.out Ea.out Ex2.out (by omega) (by omega)).mono ?_; exact h1.below hBel; exact h0.below hBel; rintro e wx2 ⟨Ax2, cx2, rfl, rx2, b9⟩; replace hBel := hBel.trans (b9.mono hBel.size); replace E_x1 := E_x1.trans (b9.mono E_x1.size); have E_x2 := Below.refl wx2.heap.size wx2)
      | (go_at_call 28; have _t := tk13; clear tk13; refine (rIEq_c x1 Ax1 Ax2 cx1 cx2 _ ?_ ?_ ?_).mono ?_; exact rx1.lim.below E_x1; exact rx2.lim.below E_x2; exact Nat.le_trans zx1 (by omega); rintro e w' ⟨rfl, b9⟩; replace hBel := hBel.trans (b9.mono hBel.size))
      | (go_at_call 29; have _t := tk14; clear tk14; refine (IMul_n p0 p1 A0 A1 xs0 xs1 c0 c1 _ a b y1 1048576 1048576 ?_ ?_ k0 k1 Ea.out Eb.out Ey1.out (by omega)).mono ?_; exact h0.below hBel; exact h1.below hBel; rintro e wy1 ⟨Ay1, cy1, rfl, ry1, b9⟩; replace hBel := hBel.trans (b9.mono hBel.size); have E_y1 := Below.refl wy1.heap.size wy1)
      | (go_at_call 29; have _t := tk15; clear tk15; refine (IMul_n p1 p0 A1 A0 xs1 xs0 c1 c0 _ b a y1 1048576 1048576 ?_ ?_ k1 k0 Eb.out Ea.out Ey2.out (by omega)).mono ?_; exact h1.below hBel; exact h0.below hBel; rintro e wy2 ⟨Ay2, cy2, rfl, ry2, b9⟩; replace hBel := hBel.trans (b9.mono hBel.size); replace E_y1 := E_y1.trans (b9.mono E_y1.size); have E_y2 := Below.refl wy2.heap.size wy2)
      | (go_at_call 28; have _t := tk16; clear tk16; refine (rIEq_c y1 Ay1 Ay2 cy1 cy2 _ ?_ ?_ ?_).mono ?_; exact ry1.lim.below E_y1; exact ry2.lim.below E_y2; exact Nat.le_trans zy1 (by omega); rintro e w' ⟨rfl, b9⟩; replace hBel := hBel.trans (b9.mono hBel.size))
      | (go_at_call 27; have _t := tk17; clear tk17; refine (IAdd_n p1 p2 A1 A2 xs1 xs2 c1 c2 _ b c z1 1048576 1048576 ?_ ?_ k1 k2 Eb.out Ec.out Ez1.out (by omega) (by omega)).mono ?_; exact h1.below hBel; exact h2.below hBel; rintro e wz1 ⟨Az1, cz1, rfl, rz1, b9⟩; replace hBel := hBel.trans (b9.mono hBel.size); have E_z1 := Below.refl wz1.heap.size wz1)
      | (go_at_call 29; have _t := tk18; clear tk18; refine (IMul_n p0 (decide (z1 < 0)) A0 Az1 xs0 (limbs z1.natAbs) c0 cz1 _ a z1 z2 1048576 1048577 ?_ ?_ k0 zz1 Ea.out (iv_canon z1) Ez2.out (by omega)).mono ?_; exact h0.below hBel; exact rz1.lim.below E_z1; rintro e wz2 ⟨Az2, cz2, rfl, rz2, b9⟩; replace hBel := hBel.trans (b9.mono hBel.size); have E_z2 := Below.refl wz2.heap.size wz2)
      | (go_at_call 29; have _t := tk19; clear tk19; refine (IMul_n p0 p1 A0 A1 xs0 xs1 c0 c1 _ a b z3 1048576 1048576 ?_ ?_ k0 k1 Ea.out Eb.out Ez3.out (by omega)).mono ?_; exact h0.below hBel; exact h1.below hBel; rintro e wz3 ⟨Az3, cz3, rfl, rz3, b9⟩; replace hBel := hBel.trans (b9.mono hBel.size); replace E_z2 := E_z2.trans (b9.mono E_z2.size); have E_z3 := Below.refl wz3.heap.size wz3)
      | (go_at_call 29; have _t := tk20; clear tk20; refine (IMul_n p0 p2 A0 A2 xs0 xs2 c0 c2 _ a c z4 1048576 1048576 ?_ ?_ k0 k2 Ea.out Ec.out Ez4.out (by omega)).mono ?_; exact h0.below hBel; exact h2.below hBel; rintro e wz4 ⟨Az4, cz4, rfl, rz4, b9⟩; replace hBel := hBel.trans (b9.mono hBel.size); replace E_z2 := E_z2.trans (b9.mono E_z2.size); replace E_z3 := E_z3.trans (b9.mono E_z3.size); have E_z4 := Below.refl wz4.heap.size wz4)
      | (go_at_call 27; have _t := tk21; clear tk21; refine (IAdd_n (decide (z3 < 0)) (decide (z4 < 0)) Az3 Az4 (limbs z3.natAbs) (limbs z4.natAbs) cz3 cz4 _ z3 z4 z2 2097152 2097152 ?_ ?_ zz3 zz4 (iv_canon z3) (iv_canon z4) Ez5.out (by omega) (by omega)).mono ?_; exact rz3.lim.below E_z3; exact rz4.lim.below E_z4; rintro e wz5 ⟨Az5, cz5, rfl, rz5, b9⟩; replace hBel := hBel.trans (b9.mono hBel.size); replace E_z2 := E_z2.trans (b9.mono E_z2.size); have E_z5 := Below.refl wz5.heap.size wz5)
      | (go_at_call 28; have _t := tk22; clear tk22; refine (rIEq_c z2 Az2 Az5 cz2 cz5 _ ?_ ?_ ?_).mono ?_; exact rz2.lim.below E_z2; exact rz5.lim.below E_z5; exact Nat.le_trans zz2 (by omega); rintro e w' ⟨rfl, b9⟩; replace hBel := hBel.trans (b9.mono hBel.size))
      | (go_at_call 30; have _t := tk23; clear tk23; refine (INeg_n p0 A0 xs0 c0 _ a n1 1048576 ?_ k0 Ea.out En1.out (by omega)).mono ?_; exact h0.below hBel; rintro e wn1 ⟨An1, cn1, rfl, rn1, b9⟩; replace hBel := hBel.trans (b9.mono hBel.size); have E_n1 := Below.refl wn1.heap.size wn1)
      | (go_at_call 27; have _t := tk24; clear tk24; refine (IAdd_n p0 (decide (n1 < 0)) A0 An1 xs0 (limbs n1.natAbs) c0 cn1 _ a n1 zz 1048576 1048576 ?_ ?_ k0 zn1 Ea.out (iv_canon n1) En2.out (by omega) (by omega)).mono ?_; exact h0.below hBel; exact rn1.lim.below E_n1; rintro e wn2 ⟨An2, cn2, rfl, rn2, b9⟩; replace hBel := hBel.trans (b9.mono hBel.size); have E_n2 := Below.refl wn2.heap.size wn2)
      | (go_at_call 31; have _t := tk25; clear tk25; refine (rFromInt_n 0 zz _ ?_ ?_ Ezz.out).mono ?_; omega; omega; rintro e wn3 ⟨An3, cn3, rfl, rn3, b9⟩; replace hBel := hBel.trans (b9.mono hBel.size); replace E_n2 := E_n2.trans (b9.mono E_n2.size); have E_n3 := Below.refl wn3.heap.size wn3)
      | (go_at_call 28; have _t := tk26; clear tk26; refine (rIEq_c zz An2 An3 cn2 cn3 _ ?_ ?_ ?_).mono ?_; exact rn2.lim.below E_n2; exact rn3.lim.below E_n3; exact Nat.le_trans zzz (by omega); rintro e w' ⟨rfl, b9⟩; replace hBel := hBel.trans (b9.mono hBel.size))
      | (go_at_call 27; have _t := tk27; clear tk27; refine (IAdd_n p0 p1 A0 A1 xs0 xs1 c0 c1 _ a b s1 1048576 1048576 ?_ ?_ k0 k1 Ea.out Eb.out Es1.out (by omega) (by omega)).mono ?_; exact h0.below hBel; exact h1.below hBel; rintro e ws1 ⟨As1, cs1, rfl, rs1, b9⟩; replace hBel := hBel.trans (b9.mono hBel.size); have E_s1 := Below.refl ws1.heap.size ws1)
      | (go_at_call 26; have _t := tk28; clear tk28; refine (ISub_n (decide (s1 < 0)) p1 As1 A1 (limbs s1.natAbs) xs1 cs1 c1 _ s1 b a 1048577 1048576 ?_ ?_ zs1 k1 (iv_canon s1) Eb.out Es2.out (by omega) (by omega)).mono ?_; exact rs1.lim.below E_s1; exact h1.below hBel; rintro e ws2 ⟨As2, cs2, rfl, rs2, b9⟩; replace hBel := hBel.trans (b9.mono hBel.size); have E_s2 := Below.refl ws2.heap.size ws2)
      | (go_at_call 32; have _t := tk29; clear tk29; refine (rNorm_n p0 A0 xs0 c0 _ a 1048576 ?_ k0 Ea.out (by omega)).mono ?_; exact h0.below hBel; rintro e ws3 ⟨As3, cs3, rfl, rs3, b9⟩; replace hBel := hBel.trans (b9.mono hBel.size); replace E_s2 := E_s2.trans (b9.mono E_s2.size); have E_s3 := Below.refl ws3.heap.size ws3)
      | (go_at_call 28; have _t := tk30; clear tk30; refine (rIEq_c a As2 As3 cs2 cs3 _ ?_ ?_ ?_).mono ?_; exact rs2.lim.below E_s2; exact rs3.lim.below E_s3; exact Nat.le_trans za (by omega); rintro e w' ⟨rfl, b9⟩; replace hBel := hBel.trans (b9.mono hBel.size)))
  rename_i hHeld
  clear hHeld
  go_wp2
  go_ret
  exact ⟨rfl, hbW.trans (hBel.mono hbW.size)⟩

end Go.Proofs.Ytkoehkadhjjmoaa
