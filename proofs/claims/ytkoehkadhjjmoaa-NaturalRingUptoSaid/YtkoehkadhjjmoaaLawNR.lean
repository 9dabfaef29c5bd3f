/- The walk of the statement NaturalRing: it returns true. -/
import Derived.Test.YtkoehkadhjjmoaaNatO
namespace Go.Proofs.Ytkoehkadhjjmoaa
open Go.RowKit Gm

set_option maxRecDepth 100000 in
set_option maxHeartbeats 4000000 in
theorem nring_walk (A0 : Option Addr) (xs0 : List Nat) (c0 : Nat) (A1 : Option Addr) (xs1 : List Nat) (c1 : Nat) (A2 : Option Addr) (xs2 : List Nat) (c2 : Nat) (w : World) (h0 : Lim w A0 c0 xs0) (h1 : Lim w A1 c1 xs1) (h2 : Lim w A2 c2 xs2) (k0 : xs0.length ≤ 1048576) (k1 : xs1.length ≤ 1048576) (k2 : xs2.length ≤ 1048576)  :
    Calls Try.prog 10 #[.slice A0 xs0.length c0, .slice A1 xs1.length c1, .slice A2 xs2.length c2] w (RetB w true) := by
  obtain ⟨a, ea⟩ : ∃ s, val xs0 = s := ⟨_, rfl⟩
  have za : (limbs a).length ≤ 1048576 := by rw [← ea]; exact Nat.le_trans (limbs_length_le h0.lb) k0
  obtain ⟨b, eb⟩ : ∃ s, val xs1 = s := ⟨_, rfl⟩
  have zb : (limbs b).length ≤ 1048576 := by rw [← eb]; exact Nat.le_trans (limbs_length_le h1.lb) k1
  obtain ⟨c, ec⟩ : ∃ s, val xs2 = s := ⟨_, rfl⟩
  have zc : (limbs c).length ≤ 1048576 := by rw [← ec]; exact Nat.le_trans (limbs_length_le h2.lb) k2
  obtain ⟨s1, es1⟩ : ∃ s, a + b = s := ⟨_, rfl⟩
  have zs1 : (limbs s1).length ≤ 1048577 := by rw [← es1]; exact limbs_add_le za zb
  have es2 : b + a = s1 := by omega
  obtain ⟨m1, em1⟩ : ∃ s, a * b = s := ⟨_, rfl⟩
  have zm1 : (limbs m1).length ≤ 2097152 := nmul_sz za zb em1 (by omega)
  have em2 : b * a = m1 := by rw [Nat.mul_comm]; exact em1
  obtain ⟨t1, et1⟩ : ∃ s, s1 + c = s := ⟨_, rfl⟩
  have zt1 : (limbs t1).length ≤ 1048578 := by rw [← et1]; exact limbs_add_le zs1 (Nat.le_trans zc (by omega))
  obtain ⟨t2, et2⟩ : ∃ s, b + c = s := ⟨_, rfl⟩
  have zt2 : (limbs t2).length ≤ 1048577 := by rw [← et2]; exact limbs_add_le zb zc
  have et3 : a + t2 = t1 := by omega
  obtain ⟨p1, ep1⟩ : ∃ s, m1 * c = s := ⟨_, rfl⟩
  have zp1 : (limbs p1).length ≤ 3145728 := nmul_sz zm1 zc ep1 (by omega)
  obtain ⟨p2, ep2⟩ : ∃ s, b * c = s := ⟨_, rfl⟩
  have zp2 : (limbs p2).length ≤ 2097152 := nmul_sz zb zc ep2 (by omega)
  have ep3 : a * p2 = p1 := by rw [← ep1, ← ep2, ← em1, Nat.mul_assoc]
  obtain ⟨d1, ed1⟩ : ∃ s, a * t2 = s := ⟨_, rfl⟩
  have zd1 : (limbs d1).length ≤ 2097153 := nmul_sz za zt2 ed1 (by omega)
  obtain ⟨d2, ed2⟩ : ∃ s, a * c = s := ⟨_, rfl⟩
  have zd2 : (limbs d2).length ≤ 2097152 := nmul_sz za zc ed2 (by omega)
  have ed3 : m1 + d2 = d1 := by rw [← em1, ← ed2, ← ed1, ← et2, Nat.mul_add]
  have Ea := Lib.hid ea
  have Eb := Lib.hid eb
  have Ec := Lib.hid ec
  have Es1 := Lib.hid es1
  have Es2 := Lib.hid es2
  have Em1 := Lib.hid em1
  have Em2 := Lib.hid em2
  have Et1 := Lib.hid et1
  have Et2 := Lib.hid et2
  have Et3 := Lib.hid et3
  have Ep1 := Lib.hid ep1
  have Ep2 := Lib.hid ep2
  have Ep3 := Lib.hid ep3
  have Ed1 := Lib.hid ed1
  have Ed2 := Lib.hid ed2
  have Ed3 := Lib.hid ed3
  clear ea eb ec es1 es2 em1 em2 et1 et2 et3 ep1 ep2 ep3 ed1 ed2 ed3
  have hBel : Below w.heap.size w w := Below.refl _ _
  go_enter Try.func10, Try.ntmps10
  go_wp2_with fail
  refine (awake1_c w).mono ?_
  rintro e w1 ⟨rfl, b9⟩
  replace hBel := hBel.trans (b9.mono hBel.size)
  replace h0 := h0.below b9
  replace h1 := h1.below b9
  replace h2 := h2.below b9
  clear b9
  go_wp2_with fail
  refine (Add_n A0 A1 xs0 xs1 c0 c1 w1 a b s1 1048576 1048576 h0 h1 k0 k1 Ea.out Eb.out Es1.out (by omega) (by omega)).mono ?_
  rintro e w2 ⟨Ax1, cx1, rfl, qx1, b9⟩
  replace hBel := hBel.trans (b9.mono hBel.size)
  replace h0 := h0.below b9
  replace h1 := h1.below b9
  replace h2 := h2.below b9
  have gx1 := qx1.lim
  clear b9 qx1
  go_wp2_with fail
  refine (Add_n A1 A0 xs1 xs0 c1 c0 w2 b a s1 1048576 1048576 h1 h0 k1 k0 Eb.out Ea.out Es2.out (by omega) (by omega)).mono ?_
  rintro e w3 ⟨Ax2, cx2, rfl, qx2, b9⟩
  replace hBel := hBel.trans (b9.mono hBel.size)
  replace h0 := h0.below b9
  replace h1 := h1.below b9
  replace h2 := h2.below b9
  replace gx1 := gx1.below b9
  have gx2 := qx2.lim
  clear b9 qx2
  go_wp2_with fail
  refine (rEq_n Ax1 Ax2 (limbs s1) (limbs s1) cx1 cx2 w3 1048577 1048577 gx1 gx2 zs1 zs1 rfl (by omega) (by omega)).mono ?_
  rintro e w4 ⟨rfl, b9⟩
  replace hBel := hBel.trans (b9.mono hBel.size)
  replace h0 := h0.below b9
  replace h1 := h1.below b9
  replace h2 := h2.below b9
  replace gx1 := gx1.below b9
  replace gx2 := gx2.below b9
  clear b9
  clear gx1
  clear gx2
  go_wp2_with fail
  refine (Mul_n A0 A1 xs0 xs1 c0 c1 w4 a b m1 1048576 1048576 h0 h1 k0 k1 Ea.out Eb.out Em1.out (by omega)).mono ?_
  rintro e w5 ⟨Ax3, cx3, rfl, qx3, b9⟩
  replace hBel := hBel.trans (b9.mono hBel.size)
  replace h0 := h0.below b9
  replace h1 := h1.below b9
  replace h2 := h2.below b9
  have gx3 := qx3.lim
  clear b9 qx3
  go_wp2_with fail
  refine (Mul_n A1 A0 xs1 xs0 c1 c0 w5 b a m1 1048576 1048576 h1 h0 k1 k0 Eb.out Ea.out Em2.out (by omega)).mono ?_
  rintro e w6 ⟨Ax4, cx4, rfl, qx4, b9⟩
  replace hBel := hBel.trans (b9.mono hBel.size)
  replace h0 := h0.below b9
  replace h1 := h1.below b9
  replace h2 := h2.below b9
  replace gx3 := gx3.below b9
  have gx4 := qx4.lim
  clear b9 qx4
  go_wp2_with fail
  refine (rEq_n Ax3 Ax4 (limbs m1) (limbs m1) cx3 cx4 w6 2097152 2097152 gx3 gx4 zm1 zm1 rfl (by omega) (by omega)).mono ?_
  rintro e w7 ⟨rfl, b9⟩
  replace hBel := hBel.trans (b9.mono hBel.size)
  replace h0 := h0.below b9
  replace h1 := h1.below b9
  replace h2 := h2.below b9
  replace gx3 := gx3.below b9
  replace gx4 := gx4.below b9
  clear b9
  clear gx3
  clear gx4
  go_wp2_with fail
  refine (Add_n A0 A1 xs0 xs1 c0 c1 w7 a b s1 1048576 1048576 h0 h1 k0 k1 Ea.out Eb.out Es1.out (by omega) (by omega)).mono ?_
  rintro e w8 ⟨Ay1, cy1, rfl, qy1, b9⟩
  replace hBel := hBel.trans (b9.mono hBel.size)
  replace h0 := h0.below b9
  replace h1 := h1.below b9
  replace h2 := h2.below b9
  have gy1 := qy1.lim
  clear b9 qy1
  go_wp2_with fail
  refine (Add_n Ay1 A2 (limbs s1) xs2 cy1 c2 w8 s1 c t1 1048577 1048576 gy1 h2 zs1 k2 (val_limbs s1) Ec.out Et1.out (by omega) (by omega)).mono ?_
  rintro e w9 ⟨Ay2, cy2, rfl, qy2, b9⟩
  replace hBel := hBel.trans (b9.mono hBel.size)
  replace h0 := h0.below b9
  replace h1 := h1.below b9
  replace h2 := h2.below b9
  replace gy1 := gy1.below b9
  have gy2 := qy2.lim
  clear b9 qy2
  go_wp2_with fail
  refine (Add_n A1 A2 xs1 xs2 c1 c2 w9 b c t2 1048576 1048576 h1 h2 k1 k2 Eb.out Ec.out Et2.out (by omega) (by omega)).mono ?_
  rintro e w10 ⟨Ay3, cy3, rfl, qy3, b9⟩
  replace hBel := hBel.trans (b9.mono hBel.size)
  replace h0 := h0.below b9
  replace h1 := h1.below b9
  replace h2 := h2.below b9
  replace gy1 := gy1.below b9
  replace gy2 := gy2.below b9
  have gy3 := qy3.lim
  clear b9 qy3
  go_wp2_with fail
  refine (Add_n A0 Ay3 xs0 (limbs t2) c0 cy3 w10 a t2 t1 1048576 1048577 h0 gy3 k0 zt2 Ea.out (val_limbs t2) Et3.out (by omega) (by omega)).mono ?_
  rintro e w11 ⟨Ay4, cy4, rfl, qy4, b9⟩
  replace hBel := hBel.trans (b9.mono hBel.size)
  replace h0 := h0.below b9
  replace h1 := h1.below b9
  replace h2 := h2.below b9
  replace gy1 := gy1.below b9
  replace gy2 := gy2.below b9
  replace gy3 := gy3.below b9
  have gy4 := qy4.lim
  clear b9 qy4
  go_wp2_with fail
  refine (rEq_n Ay2 Ay4 (limbs t1) (limbs t1) cy2 cy4 w11 1048578 1048578 gy2 gy4 zt1 zt1 rfl (by omega) (by omega)).mono ?_
  rintro e w12 ⟨rfl, b9⟩
  replace hBel := hBel.trans (b9.mono hBel.size)
  replace h0 := h0.below b9
  replace h1 := h1.below b9
  replace h2 := h2.below b9
  replace gy1 := gy1.below b9
  replace gy2 := gy2.below b9
  replace gy3 := gy3.below b9
  replace gy4 := gy4.below b9
  clear b9
  clear gy2
  clear gy4
  go_wp2_with fail
  refine (Mul_n A0 A1 xs0 xs1 c0 c1 w12 a b m1 1048576 1048576 h0 h1 k0 k1 Ea.out Eb.out Em1.out (by omega)).mono ?_
  rintro e w13 ⟨Au1, cu1, rfl, qu1, b9⟩
  replace hBel := hBel.trans (b9.mono hBel.size)
  replace h0 := h0.below b9
  replace h1 := h1.below b9
  replace h2 := h2.below b9
  replace gy1 := gy1.below b9
  replace gy3 := gy3.below b9
  have gu1 := qu1.lim
  clear b9 qu1
  go_wp2_with fail
  refine (Mul_n Au1 A2 (limbs m1) xs2 cu1 c2 w13 m1 c p1 2097152 1048576 gu1 h2 zm1 k2 (val_limbs m1) Ec.out Ep1.out (by omega)).mono ?_
  rintro e w14 ⟨Au2, cu2, rfl, qu2, b9⟩
  replace hBel := hBel.trans (b9.mono hBel.size)
  replace h0 := h0.below b9
  replace h1 := h1.below b9
  replace h2 := h2.below b9
  replace gy1 := gy1.below b9
  replace gy3 := gy3.below b9
  replace gu1 := gu1.below b9
  have gu2 := qu2.lim
  clear b9 qu2
  go_wp2_with fail
  refine (Mul_n A1 A2 xs1 xs2 c1 c2 w14 b c p2 1048576 1048576 h1 h2 k1 k2 Eb.out Ec.out Ep2.out (by omega)).mono ?_
  rintro e w15 ⟨Au3, cu3, rfl, qu3, b9⟩
  replace hBel := hBel.trans (b9.mono hBel.size)
  replace h0 := h0.below b9
  replace h1 := h1.below b9
  replace h2 := h2.below b9
  replace gy1 := gy1.below b9
  replace gy3 := gy3.below b9
  replace gu1 := gu1.below b9
  replace gu2 := gu2.below b9
  have gu3 := qu3.lim
  clear b9 qu3
  go_wp2_with fail
  refine (Mul_n A0 Au3 xs0 (limbs p2) c0 cu3 w15 a p2 p1 1048576 2097152 h0 gu3 k0 zp2 Ea.out (val_limbs p2) Ep3.out (by omega)).mono ?_
  rintro e w16 ⟨Au4, cu4, rfl, qu4, b9⟩
  replace hBel := hBel.trans (b9.mono hBel.size)
  replace h0 := h0.below b9
  replace h1 := h1.below b9
  replace h2 := h2.below b9
  replace gy1 := gy1.below b9
  replace gy3 := gy3.below b9
  replace gu1 := gu1.below b9
  replace gu2 := gu2.below b9
  replace gu3 := gu3.below b9
  have gu4 := qu4.lim
  clear b9 qu4
  go_wp2_with fail
  refine (rEq_n Au2 Au4 (limbs p1) (limbs p1) cu2 cu4 w16 3145728 3145728 gu2 gu4 zp1 zp1 rfl (by omega) (by omega)).mono ?_
  rintro e w17 ⟨rfl, b9⟩
  replace hBel := hBel.trans (b9.mono hBel.size)
  replace h0 := h0.below b9
  replace h1 := h1.below b9
  replace h2 := h2.below b9
  replace gy1 := gy1.below b9
  replace gy3 := gy3.below b9
  replace gu1 := gu1.below b9
  replace gu2 := gu2.below b9
  replace gu3 := gu3.below b9
  replace gu4 := gu4.below b9
  clear b9
  clear gu2
  clear gu4
  go_wp2_with fail
  refine (Add_n A1 A2 xs1 xs2 c1 c2 w17 b c t2 1048576 1048576 h1 h2 k1 k2 Eb.out Ec.out Et2.out (by omega) (by omega)).mono ?_
  rintro e w18 ⟨Av1, cv1, rfl, qv1, b9⟩
  replace hBel := hBel.trans (b9.mono hBel.size)
  replace h0 := h0.below b9
  replace h1 := h1.below b9
  replace h2 := h2.below b9
  replace gy1 := gy1.below b9
  replace gy3 := gy3.below b9
  replace gu1 := gu1.below b9
  replace gu3 := gu3.below b9
  have gv1 := qv1.lim
  clear b9 qv1
  go_wp2_with fail
  refine (Mul_n A0 Av1 xs0 (limbs t2) c0 cv1 w18 a t2 d1 1048576 1048577 h0 gv1 k0 zt2 Ea.out (val_limbs t2) Ed1.out (by omega)).mono ?_
  rintro e w19 ⟨Av2, cv2, rfl, qv2, b9⟩
  replace hBel := hBel.trans (b9.mono hBel.size)
  replace h0 := h0.below b9
  replace h1 := h1.below b9
  replace h2 := h2.below b9
  replace gy1 := gy1.below b9
  replace gy3 := gy3.below b9
  replace gu1 := gu1.below b9
  replace gu3 := gu3.below b9
  replace gv1 := gv1.below b9
  have gv2 := qv2.lim
  clear b9 qv2
  go_wp2_with fail
  refine (Mul_n A0 A1 xs0 xs1 c0 c1 w19 a b m1 1048576 1048576 h0 h1 k0 k1 Ea.out Eb.out Em1.out (by omega)).mono ?_
  rintro e w20 ⟨Av3, cv3, rfl, qv3, b9⟩
  replace hBel := hBel.trans (b9.mono hBel.size)
  replace h0 := h0.below b9
  replace h1 := h1.below b9
  replace h2 := h2.below b9
  replace gy1 := gy1.below b9
  replace gy3 := gy3.below b9
  replace gu1 := gu1.below b9
  replace gu3 := gu3.below b9
  replace gv1 := gv1.below b9
  replace gv2 := gv2.below b9
  have gv3 := qv3.lim
  clear b9 qv3
  go_wp2_with fail
  refine (Mul_n A0 A2 xs0 xs2 c0 c2 w20 a c d2 1048576 1048576 h0 h2 k0 k2 Ea.out Ec.out Ed2.out (by omega)).mono ?_
  rintro e w21 ⟨Av4, cv4, rfl, qv4, b9⟩
  replace hBel := hBel.trans (b9.mono hBel.size)
  replace h0 := h0.below b9
  replace h1 := h1.below b9
  replace h2 := h2.below b9
  replace gy1 := gy1.below b9
  replace gy3 := gy3.below b9
  replace gu1 := gu1.below b9
  replace gu3 := gu3.below b9
  replace gv1 := gv1.below b9
  replace gv2 := gv2.below b9
  replace gv3 := gv3.below b9
  have gv4 := qv4.lim
  clear b9 qv4
  go_wp2_with fail
  refine (Add_n Av3 Av4 (limbs m1) (limbs d2) cv3 cv4 w21 m1 d2 d1 2097152 2097152 gv3 gv4 zm1 zd2 (val_limbs m1) (val_limbs d2) Ed3.out (by omega) (by omega)).mono ?_
  rintro e w22 ⟨Av5, cv5, rfl, qv5, b9⟩
  replace hBel := hBel.trans (b9.mono hBel.size)
  replace h0 := h0.below b9
  replace h1 := h1.below b9
  replace h2 := h2.below b9
  replace gy1 := gy1.below b9
  replace gy3 := gy3.below b9
  replace gu1 := gu1.below b9
  replace gu3 := gu3.below b9
  replace gv1 := gv1.below b9
  replace gv2 := gv2.below b9
  replace gv3 := gv3.below b9
  replace gv4 := gv4.below b9
  have gv5 := qv5.lim
  clear b9 qv5
  go_wp2_with fail
  refine (rEq_n Av2 Av5 (limbs d1) (limbs d1) cv2 cv5 w22 2097153 2097153 gv2 gv5 zd1 zd1 rfl (by omega) (by omega)).mono ?_
  rintro e w23 ⟨rfl, b9⟩
  replace hBel := hBel.trans (b9.mono hBel.size)
  replace h0 := h0.below b9
  replace h1 := h1.below b9
  replace h2 := h2.below b9
  replace gy1 := gy1.below b9
  replace gy3 := gy3.below b9
  replace gu1 := gu1.below b9
  replace gu3 := gu3.below b9
  replace gv1 := gv1.below b9
  replace gv2 := gv2.below b9
  replace gv3 := gv3.below b9
  replace gv4 := gv4.below b9
  replace gv5 := gv5.below b9
  clear b9
  clear gv2
  clear gv5
  go_wp2_with fail
  go_ret
  exact ⟨rfl, hBel⟩

end Go.Proofs.Ytkoehkadhjjmoaa
