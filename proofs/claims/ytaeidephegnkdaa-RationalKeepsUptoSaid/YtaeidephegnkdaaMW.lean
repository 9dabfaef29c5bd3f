/- Ry Rz in one text. -/
import Derived.Test.YtaeidephegnkdaaMV
namespace Go.Proofs.Ytaeidephegnkdaa
open Go.RowKit Gm
/- Contracts of reference 03: Sign, den, Neg, Mul, Equal, Whole; rational.Sub, FromInt, Min, Max. -/

theorem rINeg_v {w : World} {b s : Value} {m : Int} {K : Nat} {q : Int} (h : IsInt w b s m K) (hK : K ≤ 1099511627776) (e : -m = q) : Calls Try.prog 73 #[.agg #[b, s]] w (RetZ w q) := by
  obtain ⟨p, A, xs, c, rfl, rfl, ha, hs, hm⟩ := h
  exact (rNeg_n p A xs c w m q K ha hs hm e (by omega)).mono fun _ _ h => h.z
theorem Sz.add {r s t : Rat} {k j : Nat} (h : Sz r k) (h2 : Sz s k) (e : r + s = t) (hj : k + k + 1 ≤ j) : Sz t j := by
  have hm : r + s = mkRat (r.num * (s.den : Int) + s.num * (r.den : Int)) (r.den * s.den) := Rat.add_def' r s
  rw [← e, hm]
  constructor
  · refine Nat.le_trans (limbs_mono (mkRat_num_le _ _)) ?_
    have z1 : (limbs (r.num * (s.den : Int)).natAbs).length ≤ k + k := imul_sz h.1 (n := (s.den : Int)) (by rw [Int.natAbs_natCast]; exact h2.2) rfl (Nat.le_refl _)
    have z2 : (limbs (s.num * (r.den : Int)).natAbs).length ≤ k + k := imul_sz h2.1 (n := (r.den : Int)) (by rw [Int.natAbs_natCast]; exact h.2) rfl (Nat.le_refl _)
    exact isum_sz z1 z2 rfl (by omega) (by omega)
  · refine Nat.le_trans (limbs_mono (mkRat_den_le _ (Nat.mul_ne_zero r.den_nz s.den_nz))) ?_
    exact nmul_sz h.2 h2.2 rfl (by omega)
theorem Sz.mul {r s t : Rat} {k j : Nat} (h : Sz r k) (h2 : Sz s k) (e : r * s = t) (hj : k + k ≤ j) : Sz t j := by
  have hm : r * s = mkRat (r.num * s.num) (r.den * s.den) := Rat.mul_def' r s
  rw [← e, hm]
  constructor
  · refine Nat.le_trans (limbs_mono (mkRat_num_le _ _)) ?_
    exact imul_sz h.1 h2.1 rfl hj
  · refine Nat.le_trans (limbs_mono (mkRat_den_le _ (Nat.mul_ne_zero r.den_nz s.den_nz))) ?_
    exact nmul_sz h.2 h2.2 rfl hj
theorem Sz.neg {r t : Rat} {k : Nat} (h : Sz r k) (e : -r = t) : Sz t k := by
  rw [← e]; unfold Sz; rw [Rat.neg_num, Rat.neg_den, Int.natAbs_neg]; exact h
theorem Sz.inv {r t : Rat} {k : Nat} (h : Sz r k) (e : r⁻¹ = t) : Sz t k := by
  by_cases h0 : r = 0
  · rw [← e, h0, Rat.inv_zero]; rw [h0] at h; exact h
  · obtain ⟨_, a2, a3⟩ := inv_parts h0
    rw [← e]; unfold Sz; rw [a2, a3]; exact ⟨h.2, h.1⟩
theorem SzI.neg {n m : Int} {k : Nat} (h : SzI n k) (e : -n = m) : SzI m k := by rw [← e]; unfold SzI; rw [Int.natAbs_neg]; exact h

set_option maxRecDepth 100000 in
set_option maxHeartbeats 2000000 in
theorem rRSign_v {w : World} {ax ay_ az : Value} {ra : Rat} {K : Nat} {q : Int} (ha : IsRat w ax ay_ az ra K) (hK : K ≤ 1099511627776) (e : sgn ra.num = q) : Calls Try.prog 45 #[.agg #[ax, ay_, az]] w (RetI w q) := by
  obtain ⟨W, hW, hbW, i0⟩ : ∃ W, w.alloc (.cells #[ax, ay_, az] 26) = W ∧ Below w.heap.size w W ∧ Bx3 W (w.heap.size) ax ay_ az := ⟨_, rfl, (Below.refl _ _).alloc (by simp <;> omega) _, by refine ⟨?_, ?_, ?_, ?_, ?_, ?_⟩ <;> go_simp⟩
  have ji0 := i0.lt; have x00 := i0.c0; have x01 := i0.c1; have x02 := i0.c2
  have HW := Lib.hid hW
  clear hW
  replace ha := ha.keep hbW
  have za := ha.sz
  obtain ⟨r1, er1⟩ : ∃ x, ra = x := ⟨_, rfl⟩
  have e1 : sgn r1.num = q := by rw [← er1]; exact e
  have z1 : Sz r1 K := by rw [← er1]; exact za
  clear e za
  have ER1 := Lib.hid er1
  clear er1
  have E1 := Lib.hid e1
  clear e1
  have F0 := fieldNum
  go_enter Try.func45, Try.ntmps45
  go_wp2_with fail
  rw [HW.out]
  refine (rRNorm_v ha hK ER1.out).mono ?_
  rintro e w1 ⟨b1, s1, t1, rfl, o1, g1⟩
  go_wp2_with fail
  refine (rISign_v (o1.num.is z1.num) (by omega) E1.out).mono ?_
  rintro e w2 ⟨rfl, g2⟩
  go_wp2_with fail
  go_ret
  exact ⟨rfl, hbW.trans ((g1.trans (g2.mono g1.size)).mono hbW.size)⟩
set_option maxRecDepth 100000 in
set_option maxHeartbeats 2000000 in
theorem rden_v {w : World} {ax ay_ az : Value} {ra : Rat} {K : Nat} (ha : IsRat w ax ay_ az ra K) (hK : K ≤ 1099511627776) : Calls Try.prog 72 #[.agg #[ax, ay_, az]] w (RetZ w (ra.den : Int)) := by
  obtain ⟨W, hW, hbW, i0, i1⟩ : ∃ W, (w.alloc (.cells #[ax, ay_, az] 26)).alloc (.cells #[.bool false, .slice none 0 0] 24) = W ∧ Below w.heap.size w W ∧ Bx3 W (w.heap.size) ax ay_ az ∧ Bx2 W (w.heap.size + 1) (.bool false) (.slice none 0 0) := ⟨_, rfl, ((Below.refl _ _).alloc (by simp <;> omega) _).alloc (by simp <;> omega) _, by refine ⟨?_, ?_, ?_, ?_, ?_, ?_⟩ <;> go_simp, by refine ⟨?_, ?_, ?_, ?_⟩ <;> go_simp⟩
  have ji0 := i0.lt; have x00 := i0.c0; have x01 := i0.c1; have x02 := i0.c2
  have ji1 := i1.lt; have x10 := i1.c0; have x11 := i1.c1
  have HW := Lib.hid hW
  clear hW
  replace ha := ha.keep hbW
  obtain ⟨r1, er1⟩ : ∃ x, ra = x := ⟨_, rfl⟩
  rw [er1]
  have ER1 := Lib.hid er1
  clear er1
  have F0 := fieldDen
  go_enter Try.func72, Try.ntmps72
  go_wp2_with fail
  rw [HW.out]
  refine (rRNorm_v ha hK ER1.out).mono ?_
  rintro e w1 ⟨b1, s1, t1, rfl, o1, g1⟩
  have t1' := i1.keep g1
  obtain ⟨y0, y1, y2, y3⟩ := id t1'
  obtain ⟨_, _, q3⟩ := o1.st
  obtain ⟨_, _, q4⟩ := o1.cl
  have HRET := Lib.hid (ret_z (w := w) t1' (by omega) o1.den hbW.size (hbW.trans (g1.mono hbW.size)))
  clear o1 t1'
  go_wp2_with fail
  exact bodyPost_ret (v := .agg #[.bool false, t1]) (by simp [results, Try.results72, go_sem, y0, y1]) rfl HRET.out
set_option maxRecDepth 100000 in
set_option maxHeartbeats 2000000 in
theorem rRNeg_v {w : World} {ax ay_ az : Value} {ra : Rat} {K : Nat} {q : Rat} (ha : IsRat w ax ay_ az ra K) (hK : K ≤ 1099511627776) (e : -ra = q) : Calls Try.prog 74 #[.agg #[ax, ay_, az]] w (RetR w q) := by
  obtain ⟨W, hW, hbW, i0, i1⟩ : ∃ W, (w.alloc (.cells #[ax, ay_, az] 26)).alloc (.cells #[.bool false, .slice none 0 0, .slice none 0 0] 26) = W ∧ Below w.heap.size w W ∧ Bx3 W (w.heap.size) ax ay_ az ∧ Bx3 W (w.heap.size + 1) (.bool false) (.slice none 0 0) (.slice none 0 0) := ⟨_, rfl, ((Below.refl _ _).alloc (by simp <;> omega) _).alloc (by simp <;> omega) _, by refine ⟨?_, ?_, ?_, ?_, ?_, ?_⟩ <;> go_simp, by refine ⟨?_, ?_, ?_, ?_, ?_, ?_⟩ <;> go_simp⟩
  have ji0 := i0.lt; have x00 := i0.c0; have x01 := i0.c1; have x02 := i0.c2
  have ji1 := i1.lt; have x10 := i1.c0; have x11 := i1.c1; have x12 := i1.c2
  have HW := Lib.hid hW
  clear hW
  replace ha := ha.keep hbW
  obtain ⟨r1, er1⟩ : ∃ x, ra = x := ⟨_, rfl⟩
  obtain ⟨n1, en1⟩ : ∃ x, -r1.num = x := ⟨_, rfl⟩
  obtain ⟨d1, ed1⟩ : ∃ x, (r1.den : Int) = x := ⟨_, rfl⟩
  have z1 : Sz r1 K := by rw [← er1]; exact ha.sz
  have zn : SzI n1 K := z1.num.neg en1
  have zd : SzI d1 K := by rw [← ed1]; exact z1.den
  have eq : mkRat n1 r1.den = q := by rw [← en1, ← e, ← er1, ← Rat.neg_mkRat, Rat.mkRat_self]
  rw [er1] at ha
  have ed2 : d1 = ((r1.den : Nat) : Int) := ed1.symm
  clear e er1
  have EN1 := Lib.hid en1
  clear en1
  have ED1 := Lib.hid ed1
  clear ed1
  have EQ := Lib.hid eq
  clear eq
  have ED2 := Lib.hid ed2
  clear ed2
  have F0 := fieldNum
  have tk0 : True := trivial
  have tk1 : True := trivial
  have tk2 : True := trivial
  have tk3 : True := trivial
  have nz0 : w.heap.size ≠ w.heap.size + 1 := by omega
  go_enter Try.func74, Try.ntmps74
  go_wp2_with fail
  rw [HW.out]
  have hBel : Below W.heap.size W W.drew := (Below.refl _ _).drew
  go_region_held3 (fun w' => w'.cell? ⟨w.heap.size, 0, none⟩ = some ax ∧ w'.cell? ⟨w.heap.size, 1, none⟩ = some ay_ ∧ w'.cell? ⟨w.heap.size, 2, none⟩ = some az)
    (first | (with_reducible exact ⟨cellB hBel ji0 x00, cellB hBel ji0 x01, cellB hBel ji0 x02⟩) | (with_reducible exact ⟨(cellF3 nz0 _ _ _).trans (cellB hBel ji0 x00), (cellF3 nz0 _ _ _).trans (cellB hBel ji0 x01), (cellF3 nz0 _ _ _).trans (cellB hBel ji0 x02)⟩) | go_keep)
    (first
      | (go_at_call 11; have _t := tk0; clear tk0; refine (rRNorm_v (ha.keep hBel) hK rfl).mono ?_; rintro e v0 ⟨b0, s0, t0, rfl, o0, g0⟩; replace hBel := hBel.trans (g0.mono hBel.size))
      | (go_at_call 73; have _t := tk1; clear tk1; refine (rINeg_v (o0.num.is z1.num) (by omega) EN1.out).mono ?_; rintro e v1 ⟨b1, s1, rfl, o1, g1⟩; replace hBel := hBel.trans (g1.mono hBel.size))
      | (go_at_call 72; have _t := tk2; clear tk2; refine (rden_v (ha.keep hBel) hK).mono ?_; rintro e v2 ⟨b2, s2, rfl, o2, g2⟩; replace o1 := o1.keep g2; replace hBel := hBel.trans (g2.mono hBel.size))
      | (go_at_call 50; have _t := tk3; clear tk3; refine (rMake_v (o1.is zn) ((show OwInt _ _ _ _ d1 from ED1.out ▸ o2).is zd) (by omega) ED2.out EQ.out).mono ?_; rintro e v3 ⟨b3, s3, t3, rfl, o3, g3⟩; have hlo := Nat.le_trans hbW.size hBel.size; replace hBel := hBel.trans (g3.mono hBel.size); have tR := i1.keep hBel; obtain ⟨y0, y1, y2, y3, y4, y5⟩ := id tR; obtain ⟨q0, q1, q2⟩ := o3.st))
  rename_i hHeld
  clear hHeld
  have HRET := Lib.hid (ret_r (w := w) tR (by omega) o3 hlo (hbW.trans (hBel.mono hbW.size)))
  go_wp2_with fail
  exact bodyPost_ret (v := .agg #[b3, s3, t3]) (by simp [results, Try.results74, go_sem, y0, y1, y2]) rfl HRET.out
set_option maxRecDepth 100000 in
set_option maxHeartbeats 2000000 in
theorem rRMul_v {w : World} {ax ay_ az : Value} {ra : Rat} {bx by_ bz : Value} {rb : Rat} {K : Nat} {q : Rat} (ha : IsRat w ax ay_ az ra K) (hb : IsRat w bx by_ bz rb K) (hK : K ≤ 68719476736) (e : ra * rb = q) : Calls Try.prog 75 #[.agg #[ax, ay_, az], .agg #[bx, by_, bz]] w (RetR w q) := by
  obtain ⟨W, hW, hbW, i0, i1, i2⟩ : ∃ W, ((w.alloc (.cells #[ax, ay_, az] 26)).alloc (.cells #[bx, by_, bz] 26)).alloc (.cells #[.bool false, .slice none 0 0, .slice none 0 0] 26) = W ∧ Below w.heap.size w W ∧ Bx3 W (w.heap.size) ax ay_ az ∧ Bx3 W (w.heap.size + 1) bx by_ bz ∧ Bx3 W (w.heap.size + 1 + 1) (.bool false) (.slice none 0 0) (.slice none 0 0) := ⟨_, rfl, (((Below.refl _ _).alloc (by simp <;> omega) _).alloc (by simp <;> omega) _).alloc (by simp <;> omega) _, by refine ⟨?_, ?_, ?_, ?_, ?_, ?_⟩ <;> go_simp, by refine ⟨?_, ?_, ?_, ?_, ?_, ?_⟩ <;> go_simp, by refine ⟨?_, ?_, ?_, ?_, ?_, ?_⟩ <;> go_simp⟩
  have ji0 := i0.lt; have x00 := i0.c0; have x01 := i0.c1; have x02 := i0.c2
  have ji1 := i1.lt; have x10 := i1.c0; have x11 := i1.c1; have x12 := i1.c2
  have ji2 := i2.lt; have x20 := i2.c0; have x21 := i2.c1; have x22 := i2.c2
  have HW := Lib.hid hW
  clear hW
  replace ha := ha.keep hbW
  replace hb := hb.keep hbW
  obtain ⟨r1, er1⟩ : ∃ x, ra = x := ⟨_, rfl⟩
  obtain ⟨r2, er2⟩ : ∃ x, rb = x := ⟨_, rfl⟩
  obtain ⟨n1, en1⟩ : ∃ x, r1.num * r2.num = x := ⟨_, rfl⟩
  obtain ⟨d1, ed1⟩ : ∃ x, (r1.den : Int) = x := ⟨_, rfl⟩
  obtain ⟨d2, ed2⟩ : ∃ x, (r2.den : Int) = x := ⟨_, rfl⟩
  obtain ⟨d3, ed3⟩ : ∃ x, d1 * d2 = x := ⟨_, rfl⟩
  obtain ⟨D, eD⟩ : ∃ x, r1.den * r2.den = x := ⟨_, rfl⟩
  have z1 : Sz r1 K := by rw [← er1]; exact ha.sz
  have z2 : Sz r2 K := by rw [← er2]; exact hb.sz
  have zn : SzI n1 (K + K) := imul_sz z1.num z2.num en1 (by omega)
  have zd1 : SzI d1 K := by rw [← ed1]; exact z1.den
  have zd2 : SzI d2 K := by rw [← ed2]; exact z2.den
  have zd3 : SzI d3 (K + K) := imul_sz zd1 zd2 ed3 (by omega)
  have eq : mkRat n1 D = q := by rw [← en1, ← e, ← er1, ← er2, ← eD, ← er1, ← er2, ← Rat.mul_def']
  rw [er1] at ha
  rw [er2] at hb
  have ed4 : d3 = ((D : Nat) : Int) := by rw [← ed3, ← ed1, ← ed2, ← eD]; rfl
  clear e er1 er2 eD
  have EN1 := Lib.hid en1
  clear en1
  have ED1 := Lib.hid ed1
  clear ed1
  have ED2 := Lib.hid ed2
  clear ed2
  have ED3 := Lib.hid ed3
  clear ed3
  have EQ := Lib.hid eq
  clear eq
  have ED4 := Lib.hid ed4
  clear ed4
  have F0 := fieldNum
  have tk0 : True := trivial
  have tk1 : True := trivial
  have tk2 : True := trivial
  have tk3 : True := trivial
  have tk4 : True := trivial
  have tk5 : True := trivial
  have tk6 : True := trivial
  have nz0 : w.heap.size ≠ w.heap.size + 1 + 1 := by omega
  have nz1 : w.heap.size + 1 ≠ w.heap.size + 1 + 1 := by omega
  go_enter Try.func75, Try.ntmps75
  go_wp2_with fail
  rw [HW.out]
  have hBel : Below W.heap.size W W.drew := (Below.refl _ _).drew
  go_region_held3 (fun w' => w'.cell? ⟨w.heap.size, 0, none⟩ = some ax ∧ w'.cell? ⟨w.heap.size, 1, none⟩ = some ay_ ∧ w'.cell? ⟨w.heap.size, 2, none⟩ = some az ∧ w'.cell? ⟨w.heap.size + 1, 0, none⟩ = some bx ∧ w'.cell? ⟨w.heap.size + 1, 1, none⟩ = some by_ ∧ w'.cell? ⟨w.heap.size + 1, 2, none⟩ = some bz)
    (first | (with_reducible exact ⟨cellB hBel ji0 x00, cellB hBel ji0 x01, cellB hBel ji0 x02, cellB hBel ji1 x10, cellB hBel ji1 x11, cellB hBel ji1 x12⟩) | (with_reducible exact ⟨(cellF3 nz0 _ _ _).trans (cellB hBel ji0 x00), (cellF3 nz0 _ _ _).trans (cellB hBel ji0 x01), (cellF3 nz0 _ _ _).trans (cellB hBel ji0 x02), (cellF3 nz1 _ _ _).trans (cellB hBel ji1 x10), (cellF3 nz1 _ _ _).trans (cellB hBel ji1 x11), (cellF3 nz1 _ _ _).trans (cellB hBel ji1 x12)⟩) | go_keep)
    (first
      | (go_at_call 11; have _t := tk0; clear tk0; refine (rRNorm_v (ha.keep hBel) (by omega) rfl).mono ?_; rintro e v0 ⟨b0, s0, t0, rfl, o0, g0⟩; replace hBel := hBel.trans (g0.mono hBel.size))
      | (go_at_call 11; have _t := tk1; clear tk1; refine (rRNorm_v (hb.keep hBel) (by omega) rfl).mono ?_; rintro e v1 ⟨b1, s1, t1, rfl, o1, g1⟩; replace o0 := o0.keep g1; replace hBel := hBel.trans (g1.mono hBel.size))
      | (go_at_call 102; have _t := tk2; clear tk2; refine (rIMul_v (o0.num.is z1.num) (o1.num.is z2.num) (by omega) EN1.out).mono ?_; rintro e v2 ⟨b2, s2, rfl, o2, g2⟩; replace hBel := hBel.trans (g2.mono hBel.size))
      | (go_at_call 72; have _t := tk3; clear tk3; refine (rden_v (ha.keep hBel) (by omega)).mono ?_; rintro e v3 ⟨b3, s3, rfl, o3, g3⟩; replace o2 := o2.keep g3; replace hBel := hBel.trans (g3.mono hBel.size))
      | (go_at_call 72; have _t := tk4; clear tk4; refine (rden_v (hb.keep hBel) (by omega)).mono ?_; rintro e v4 ⟨b4, s4, rfl, o4, g4⟩; replace o2 := o2.keep g4; replace o3 := o3.keep g4; replace hBel := hBel.trans (g4.mono hBel.size))
      | (go_at_call 102; have _t := tk5; clear tk5; refine (rIMul_v ((show OwInt _ _ _ _ d1 from ED1.out ▸ o3).is zd1) ((show OwInt _ _ _ _ d2 from ED2.out ▸ o4).is zd2) (by omega) ED3.out).mono ?_; rintro e v5 ⟨b5, s5, rfl, o5, g5⟩; replace o2 := o2.keep g5; replace hBel := hBel.trans (g5.mono hBel.size))
      | (go_at_call 50; have _t := tk6; clear tk6; refine (rMake_v (o2.is zn) (o5.is zd3) (by omega) ED4.out EQ.out).mono ?_; rintro e v6 ⟨b6, s6, t6, rfl, o6, g6⟩; have hlo := Nat.le_trans hbW.size hBel.size; replace hBel := hBel.trans (g6.mono hBel.size); have tR := i2.keep hBel; obtain ⟨y0, y1, y2, y3, y4, y5⟩ := id tR; obtain ⟨q0, q1, q2⟩ := o6.st))
  rename_i hHeld
  clear hHeld
  have HRET := Lib.hid (ret_r (w := w) tR (by omega) o6 hlo (hbW.trans (hBel.mono hbW.size)))
  go_wp2_with fail
  exact bodyPost_ret (v := .agg #[b6, s6, t6]) (by simp [results, Try.results75, go_sem, y0, y1, y2]) rfl HRET.out
set_option maxRecDepth 100000 in
set_option maxHeartbeats 2000000 in
theorem rWhole_v {w : World} {ax ay_ : Value} {na : Int} {K : Nat} {q : Rat} (ha : IsInt w ax ay_ na K) (hK : K ≤ 1099511627776) (h1 : 1 ≤ K) (e : mkRat na 1 = q) : Calls Try.prog 39 #[.agg #[ax, ay_]] w (RetR w q) := by
  obtain ⟨W, hW, hbW, i0, i1⟩ : ∃ W, (w.alloc (.cells #[ax, ay_] 24)).alloc (.cells #[.bool false, .slice none 0 0, .slice none 0 0] 26) = W ∧ Below w.heap.size w W ∧ Bx2 W (w.heap.size) ax ay_ ∧ Bx3 W (w.heap.size + 1) (.bool false) (.slice none 0 0) (.slice none 0 0) := ⟨_, rfl, ((Below.refl _ _).alloc (by simp <;> omega) _).alloc (by simp <;> omega) _, by refine ⟨?_, ?_, ?_, ?_⟩ <;> go_simp, by refine ⟨?_, ?_, ?_, ?_, ?_, ?_⟩ <;> go_simp⟩
  have ji0 := i0.lt; have x00 := i0.c0; have x01 := i0.c1
  have ji1 := i1.lt; have x10 := i1.c0; have x11 := i1.c1; have x12 := i1.c2
  have HW := Lib.hid hW
  clear hW
  replace ha := ha.keep hbW
  obtain ⟨oo, eo1⟩ : ∃ x, (1 : Int) = x := ⟨_, rfl⟩
  have z1 : SzI oo K := by rw [← eo1]; exact Nat.le_trans (Nat.le_of_eq limbs1_len) h1
  have eo2 : oo = ((1 : Nat) : Int) := eo1.symm
  have EO1 := Lib.hid eo1
  clear eo1
  have EO2 := Lib.hid eo2
  clear eo2
  have E := Lib.hid e
  clear e
  have tk0 : True := trivial
  have tk1 : True := trivial
  have nz0 : w.heap.size ≠ w.heap.size + 1 := by omega
  go_enter Try.func39, Try.ntmps39
  go_wp2_with fail
  rw [HW.out]
  have hBel : Below W.heap.size W W.drew := (Below.refl _ _).drew
  go_region_held3 (fun w' => w'.cell? ⟨w.heap.size, 0, none⟩ = some ax ∧ w'.cell? ⟨w.heap.size, 1, none⟩ = some ay_)
    (first | (with_reducible exact ⟨cellB hBel ji0 x00, cellB hBel ji0 x01⟩) | (with_reducible exact ⟨(cellF3 nz0 _ _ _).trans (cellB hBel ji0 x00), (cellF3 nz0 _ _ _).trans (cellB hBel ji0 x01)⟩) | go_keep)
    (first
      | (go_at_call 16; have _t := tk0; clear tk0; refine (rIFromInt_v (by omega) (by omega) EO1.out).mono ?_; rintro e v0 ⟨b0, s0, rfl, o0, g0⟩; replace hBel := hBel.trans (g0.mono hBel.size))
      | (go_at_call 50; have _t := tk1; clear tk1; refine (rMake_v (ha.keep hBel) (o0.is z1) (by omega) EO2.out E.out).mono ?_; rintro e v1 ⟨b1, s1, t1, rfl, o1, g1⟩; have hlo := Nat.le_trans hbW.size hBel.size; replace hBel := hBel.trans (g1.mono hBel.size); have tR := i1.keep hBel; obtain ⟨y0, y1, y2, y3, y4, y5⟩ := id tR; obtain ⟨q0, q1, q2⟩ := o1.st))
  rename_i hHeld
  clear hHeld
  have HRET := Lib.hid (ret_r (w := w) tR (by omega) o1 hlo (hbW.trans (hBel.mono hbW.size)))
  go_wp2_with fail
  exact bodyPost_ret (v := .agg #[b1, s1, t1]) (by simp [results, Try.results39, go_sem, y0, y1, y2]) rfl HRET.out
set_option maxRecDepth 100000 in
set_option maxHeartbeats 2000000 in
theorem rREq_v {w : World}  {lo lo' : Nat} {a0 a1 a2 b0 b1 b2 : Value} {ra rb : Rat} {K : Nat} {q : Bool} (ha : OwRat lo w a0 a1 a2 ra) (hb : OwRat lo' w b0 b1 b2 rb) (za : Sz ra K) (zb : Sz rb K) (hK : K ≤ 1099511627776)  (e : decide (ra = rb) = q) : Calls Try.prog 10 #[.agg #[a0, a1, a2], .agg #[b0, b1, b2]] w (RetB w q) := by
  obtain ⟨W, hW, hbW, i0, i1⟩ : ∃ W, (w.alloc (.cells #[a0, a1, a2] 26)).alloc (.cells #[b0, b1, b2] 26) = W ∧ Below w.heap.size w W ∧ Bx3 W (w.heap.size) a0 a1 a2 ∧ Bx3 W (w.heap.size + 1) b0 b1 b2 := ⟨_, rfl, ((Below.refl _ _).alloc (by simp <;> omega) _).alloc (by simp <;> omega) _, by refine ⟨?_, ?_, ?_, ?_, ?_, ?_⟩ <;> go_simp, by refine ⟨?_, ?_, ?_, ?_, ?_, ?_⟩ <;> go_simp⟩
  have ji0 := i0.lt; have x00 := i0.c0; have x01 := i0.c1; have x02 := i0.c2
  have ji1 := i1.lt; have x10 := i1.c0; have x11 := i1.c1; have x12 := i1.c2
  have HW := Lib.hid hW
  clear hW
  replace ha := ha.keep hbW
  replace hb := hb.keep hbW
  obtain ⟨q1, eq1⟩ : ∃ x, decide (ra.num = rb.num) = x := ⟨_, rfl⟩
  obtain ⟨q2, eq2⟩ : ∃ x, decide (ra.den = rb.den) = x := ⟨_, rfl⟩
  have eq : (q1 && q2) = q := by
    rw [← e, ← eq1, ← eq2, ← Bool.decide_and, decide_eq_decide]
    exact ⟨fun h => Rat.ext h.1 h.2, fun h => by rw [h]; exact ⟨rfl, rfl⟩⟩
  clear e
  have EQ1 := Lib.hid eq1
  clear eq1
  have EQ2 := Lib.hid eq2
  clear eq2
  go_enter Try.func10, Try.ntmps10
  go_wp2_with fail
  rw [HW.out]
  refine (rIEq_v ha.num hb.num za.num zb.num hK EQ1.out).mono ?_
  rintro e w1 ⟨rfl, g1⟩
  cases q1 with
  | false =>
    go_wp2_with fail
    go_ret
    exact ⟨by rw [← eq]; rfl, hbW.trans (g1.mono hbW.size)⟩
  | true =>
    replace i0 := i0.keep g1
    replace i1 := i1.keep g1
    replace ha := ha.keep g1
    replace hb := hb.keep g1
    clear x00 x01 x02 x10 x11 x12
    have x02 := i0.c2
    have x12 := i1.c2
    go_wp2_with fail
    refine (rEqN_v ha.den hb.den za.den zb.den hK EQ2.out).mono ?_
    rintro e w2 ⟨rfl, g2⟩
    go_wp2_with fail
    go_ret
    exact ⟨by rw [← eq]; rfl, hbW.trans ((g1.trans (g2.mono g1.size)).mono hbW.size)⟩
set_option maxRecDepth 100000 in
set_option maxHeartbeats 4000000 in
theorem rRAdd_v {w : World} {ax ay_ az : Value} {ra : Rat} {bx by_ bz : Value} {rb : Rat} {K : Nat} {q : Rat} (ha : IsRat w ax ay_ az ra K) (hb : IsRat w bx by_ bz rb K) (hK : K ≤ 68719476736) (e : ra + rb = q) : Calls Try.prog 81 #[.agg #[ax, ay_, az], .agg #[bx, by_, bz]] w (RetR w q) := by
  obtain ⟨W, hW, hbW, i0, i1, i2⟩ : ∃ W, ((w.alloc (.cells #[ax, ay_, az] 26)).alloc (.cells #[bx, by_, bz] 26)).alloc (.cells #[.bool false, .slice none 0 0, .slice none 0 0] 26) = W ∧ Below w.heap.size w W ∧ Bx3 W (w.heap.size) ax ay_ az ∧ Bx3 W (w.heap.size + 1) bx by_ bz ∧ Bx3 W (w.heap.size + 1 + 1) (.bool false) (.slice none 0 0) (.slice none 0 0) := ⟨_, rfl, (((Below.refl _ _).alloc (by simp <;> omega) _).alloc (by simp <;> omega) _).alloc (by simp <;> omega) _, by refine ⟨?_, ?_, ?_, ?_, ?_, ?_⟩ <;> go_simp, by refine ⟨?_, ?_, ?_, ?_, ?_, ?_⟩ <;> go_simp, by refine ⟨?_, ?_, ?_, ?_, ?_, ?_⟩ <;> go_simp⟩
  have ji0 := i0.lt; have x00 := i0.c0; have x01 := i0.c1; have x02 := i0.c2
  have ji1 := i1.lt; have x10 := i1.c0; have x11 := i1.c1; have x12 := i1.c2
  have ji2 := i2.lt; have x20 := i2.c0; have x21 := i2.c1; have x22 := i2.c2
  have HW := Lib.hid hW
  clear hW
  replace ha := ha.keep hbW
  replace hb := hb.keep hbW
  obtain ⟨r1, er1⟩ : ∃ x, ra = x := ⟨_, rfl⟩
  obtain ⟨r2, er2⟩ : ∃ x, rb = x := ⟨_, rfl⟩
  obtain ⟨d1, ed1⟩ : ∃ x, (r1.den : Int) = x := ⟨_, rfl⟩
  obtain ⟨d2, ed2⟩ : ∃ x, (r2.den : Int) = x := ⟨_, rfl⟩
  obtain ⟨m1, em1⟩ : ∃ x, r1.num * d2 = x := ⟨_, rfl⟩
  obtain ⟨m2, em2⟩ : ∃ x, r2.num * d1 = x := ⟨_, rfl⟩
  obtain ⟨n1, en1⟩ : ∃ x, m1 + m2 = x := ⟨_, rfl⟩
  obtain ⟨d3, ed3⟩ : ∃ x, d1 * d2 = x := ⟨_, rfl⟩
  obtain ⟨D, eD⟩ : ∃ x, r1.den * r2.den = x := ⟨_, rfl⟩
  have z1 : Sz r1 K := by rw [← er1]; exact ha.sz
  have z2 : Sz r2 K := by rw [← er2]; exact hb.sz
  have zd1 : SzI d1 K := by rw [← ed1]; exact z1.den
  have zd2 : SzI d2 K := by rw [← ed2]; exact z2.den
  have zm1 : SzI m1 (K + K) := imul_sz z1.num zd2 em1 (by omega)
  have zm2 : SzI m2 (K + K) := imul_sz z2.num zd1 em2 (by omega)
  have zn : SzI n1 (K + K + 1) := isum_sz zm1 zm2 en1 (by omega) (by omega)
  have zd3 : SzI d3 (K + K + 1) := imul_sz zd1 zd2 ed3 (by omega)
  have eq : mkRat n1 D = q := by rw [← en1, ← em1, ← em2, ← ed1, ← ed2, ← eD, ← e, ← er1, ← er2]; exact (Rat.add_def' _ _).symm
  rw [er1] at ha
  rw [er2] at hb
  have ed4 : d3 = ((D : Nat) : Int) := by rw [← ed3, ← ed1, ← ed2, ← eD]; rfl
  clear e er1 er2 eD
  have ED1 := Lib.hid ed1
  clear ed1
  have ED2 := Lib.hid ed2
  clear ed2
  have EM1 := Lib.hid em1
  clear em1
  have EM2 := Lib.hid em2
  clear em2
  have EN1 := Lib.hid en1
  clear en1
  have ED3 := Lib.hid ed3
  clear ed3
  have EQ := Lib.hid eq
  clear eq
  have ED4 := Lib.hid ed4
  clear ed4
  have F0 := fieldNum
  go_enter Try.func81, Try.ntmps81
  go_wp2_with fail
  rw [HW.out]
  refine wp_region_inv (by kernel_rfl) [[], [0], [], [2, 1], [], [], [4, 1, 3, 0, 1, 4, 5], [5, 3, 6, 0, 1, 2, 3, 4, 5, 6]] (by kernel_rfl) (by kernel_rfl) (fun fa L a w' => ∃ x7 x8 x9 x10 x5 x6 vb1 vs1 vt1 vb3 vs3 vt3 : Value, ∃ N4 N5 : Nat, a = ((((((fa.put (some 7) x7).put (some 8) x8).put (some 9) x9).put (some 10) x10).put (some 5) x5).put (some 6) x6) ∧ Below W.heap.size W w' ∧ (L 0 = true → x7 = .agg #[ax, ay_, az]) ∧ (L 1 = true → x8 = .agg #[vb1, vs1, vt1] ∧ OwRat W.heap.size w' vb1 vs1 vt1 r1) ∧ (L 2 = true → x9 = .agg #[bx, by_, bz]) ∧ (L 3 = true → x10 = .agg #[vb3, vs3, vt3] ∧ OwRat W.heap.size w' vb3 vs3 vt3 r2) ∧ (L 4 = true → x5 = .pointer (some ⟨N4, 0, none⟩) ∧ W.heap.size ≤ N4 ∧ N4 < w'.heap.size ∧ (L 6 = false → Bx3 w' N4 (.bool false) (.slice none 0 0) (.slice none 0 0)) ∧ (L 6 = true → Bx3 w' N4 vb1 vs1 vt1)) ∧ (L 5 = true → x6 = .pointer (some ⟨N5, 0, none⟩) ∧ W.heap.size ≤ N5 ∧ N5 < w'.heap.size ∧ (L 7 = false → Bx3 w' N5 (.bool false) (.slice none 0 0) (.slice none 0 0)) ∧ (L 7 = true → Bx3 w' N5 vb3 vs3 vt3)) ∧ (L 4 = true → L 5 = true → N4 ≠ N5) ∧ (L 6 = true → L 4 = true) ∧ (L 6 = true → L 1 = true) ∧ (L 7 = true → L 5 = true) ∧ (L 7 = true → L 3 = true)) ?_ ?_ ?_
  · intro fa
    exact ⟨fa.tmps.getD 7 undef, fa.tmps.getD 8 undef, fa.tmps.getD 9 undef, fa.tmps.getD 10 undef, fa.tmps.getD 5 undef, fa.tmps.getD 6 undef, undef, undef, undef, undef, undef, undef, 0, 0, (by simp only [put_get]), (Below.refl _ _).drew, (fun h => absurd h (by decide)), (fun h => absurd h (by decide)), (fun h => absurd h (by decide)), (fun h => absurd h (by decide)), (fun h => absurd h (by decide)), (fun h => absurd h (by decide)), (fun h => absurd h (by decide)), (fun h => absurd h (by decide)), (fun h => absurd h (by decide)), (fun h => absurd h (by decide)), (fun h => absurd h (by decide))⟩
  · intro L a w' hall hI
    obtain ⟨x7, x8, x9, x10, x5, x6, vb1, vs1, vt1, vb3, vs3, vt3, N4, N5, rfl, hB, f0, f1, f2, f3, f4, f5, p4_5, c6_4, c6_1, c7_5, c7_3⟩ := hI
    obtain rfl := f0 (hall 0 (by decide))
    obtain ⟨rfl, o1⟩ := f1 (hall 1 (by decide))
    obtain rfl := f2 (hall 2 (by decide))
    obtain ⟨rfl, o3⟩ := f3 (hall 3 (by decide))
    obtain ⟨rfl, lo4, lt4, _, bx4⟩ := f4 (hall 4 (by decide))
    replace bx4 := bx4 (hall 6 (by decide))
    obtain ⟨rfl, lo5, lt5, _, bx5⟩ := f5 (hall 5 (by decide))
    replace bx5 := bx5 (hall 7 (by decide))
    replace p4_5 := p4_5 (hall 4 (by decide)) (hall 5 (by decide))
    clear f0 f1 f2 f3 f4 f5 c6_4 c6_1 c7_5 c7_3 hall
    simp only [Act.put, List.setIfInBounds_toArray, List.set_cons_zero, List.set_cons_succ]
    replace ha := ha.keep hB
    replace hb := hb.keep hB
    replace i0 := i0.keep hB
    replace i1 := i1.keep hB
    replace i2 := i2.keep hB
    have hb1 := hbW.trans (hB.mono hbW.size)
    have j0' := i0.lt
    have j1' := i1.lt
    have j2' := i2.lt
    clear x00 x01 x02 x10 x11 x12 x20 x21 x22
    have tk0 : True := trivial
    have tk1 : True := trivial
    have tk2 : True := trivial
    have tk3 : True := trivial
    have tk4 : True := trivial
    have tk5 : True := trivial
    have tk6 : True := trivial
    have tk7 : True := trivial
    have tk8 : True := trivial
    have ji0 := i0.lt; have x00 := i0.c0; have x01 := i0.c1; have x02 := i0.c2
    have ji1 := i1.lt; have x10 := i1.c0; have x11 := i1.c1; have x12 := i1.c2
    have jbx4 := bx4.lt; have cu0 := bx4.c0; have cu1 := bx4.c1
    have jbx5 := bx5.lt; have cv0 := bx5.c0; have cv1 := bx5.c1
    have nz0 : w.heap.size ≠ w.heap.size + 1 + 1 := by omega
    have nz1 : w.heap.size + 1 ≠ w.heap.size + 1 + 1 := by omega
    have nz2 : N4 ≠ w.heap.size + 1 + 1 := by omega
    have nz3 : N5 ≠ w.heap.size + 1 + 1 := by omega
    go_wp2_with fail
    have hBel : Below w'.heap.size w' w'.drew := (Below.refl _ _).drew
    replace o1 := o1.keep hBel
    replace o3 := o3.keep hBel
    go_region_held3 (fun w' => w'.cell? ⟨w.heap.size, 0, none⟩ = some ax ∧ w'.cell? ⟨w.heap.size, 1, none⟩ = some ay_ ∧ w'.cell? ⟨w.heap.size, 2, none⟩ = some az ∧ w'.cell? ⟨w.heap.size + 1, 0, none⟩ = some bx ∧ w'.cell? ⟨w.heap.size + 1, 1, none⟩ = some by_ ∧ w'.cell? ⟨w.heap.size + 1, 2, none⟩ = some bz ∧ w'.cell? ⟨N4, 0, none⟩ = some vb1 ∧ w'.cell? ⟨N4, 1, none⟩ = some vs1 ∧ w'.cell? ⟨N5, 0, none⟩ = some vb3 ∧ w'.cell? ⟨N5, 1, none⟩ = some vs3)
      (first | (with_reducible exact ⟨cellB hBel ji0 x00, cellB hBel ji0 x01, cellB hBel ji0 x02, cellB hBel ji1 x10, cellB hBel ji1 x11, cellB hBel ji1 x12, cellB hBel jbx4 cu0, cellB hBel jbx4 cu1, cellB hBel jbx5 cv0, cellB hBel jbx5 cv1⟩) | (with_reducible exact ⟨(cellF3 nz0 _ _ _).trans (cellB hBel ji0 x00), (cellF3 nz0 _ _ _).trans (cellB hBel ji0 x01), (cellF3 nz0 _ _ _).trans (cellB hBel ji0 x02), (cellF3 nz1 _ _ _).trans (cellB hBel ji1 x10), (cellF3 nz1 _ _ _).trans (cellB hBel ji1 x11), (cellF3 nz1 _ _ _).trans (cellB hBel ji1 x12), (cellF3 nz2 _ _ _).trans (cellB hBel jbx4 cu0), (cellF3 nz2 _ _ _).trans (cellB hBel jbx4 cu1), (cellF3 nz3 _ _ _).trans (cellB hBel jbx5 cv0), (cellF3 nz3 _ _ _).trans (cellB hBel jbx5 cv1)⟩) | go_keep)
      (first
        | (go_at_call 72; have _t := tk0; clear tk0; refine (rden_v (hb.keep hBel) (by omega)).mono ?_; rintro e v0 ⟨b0, s0, rfl, o0, g0⟩; replace o1 := o1.keep g0; replace o3 := o3.keep g0; replace hBel := hBel.trans (g0.mono hBel.size))
        | (go_at_call 102; have _t := tk1; clear tk1; refine (rIMul_v (o1.num.is z1.num) ((show OwInt _ _ _ _ d2 from ED2.out ▸ o0).is zd2) (by omega) EM1.out).mono ?_; rintro e v1 ⟨b10, s10, rfl, o10, g1⟩; replace o3 := o3.keep g1; replace hBel := hBel.trans (g1.mono hBel.size))
        | (go_at_call 72; have _t := tk2; clear tk2; refine (rden_v (ha.keep hBel) (by omega)).mono ?_; rintro e v2 ⟨b2, s2, rfl, o2, g2⟩; replace o3 := o3.keep g2; replace o10 := o10.keep g2; replace hBel := hBel.trans (g2.mono hBel.size))
        | (go_at_call 102; have _t := tk3; clear tk3; refine (rIMul_v (o3.num.is z2.num) ((show OwInt _ _ _ _ d1 from ED1.out ▸ o2).is zd1) (by omega) EM2.out).mono ?_; rintro e v3 ⟨b4, s4, rfl, o4, g3⟩; replace o10 := o10.keep g3; replace hBel := hBel.trans (g3.mono hBel.size))
        | (go_at_call 77; have _t := tk4; clear tk4; refine (rIAdd_v (o10.is zm1) (o4.is zm2) (by omega) EN1.out).mono ?_; rintro e v4 ⟨b5, s5, rfl, o5, g4⟩; replace hBel := hBel.trans (g4.mono hBel.size))
        | (go_at_call 72; have _t := tk5; clear tk5; refine (rden_v (ha.keep hBel) (by omega)).mono ?_; rintro e v5 ⟨b6, s6, rfl, o6, g5⟩; replace o5 := o5.keep g5; replace hBel := hBel.trans (g5.mono hBel.size))
        | (go_at_call 72; have _t := tk6; clear tk6; refine (rden_v (hb.keep hBel) (by omega)).mono ?_; rintro e v6 ⟨b7, s7, rfl, o7, g6⟩; replace o5 := o5.keep g6; replace o6 := o6.keep g6; replace hBel := hBel.trans (g6.mono hBel.size))
        | (go_at_call 102; have _t := tk7; clear tk7; refine (rIMul_v ((show OwInt _ _ _ _ d1 from ED1.out ▸ o6).is zd1) ((show OwInt _ _ _ _ d2 from ED2.out ▸ o7).is zd2) (by omega) ED3.out).mono ?_; rintro e v7 ⟨b8, s8, rfl, o8, g7⟩; replace o5 := o5.keep g7; replace hBel := hBel.trans (g7.mono hBel.size))
        | (go_at_call 50; have _t := tk8; clear tk8; refine (rMake_v (o5.is zn) (o8.is zd3) (by omega) ED4.out EQ.out).mono ?_; rintro e v8 ⟨b8, s8, t8, rfl, o9, g8⟩; have hlo := Nat.le_trans hb1.size hBel.size; replace hBel := hBel.trans (g8.mono hBel.size); have tR := i2.keep hBel; obtain ⟨y0, y1, y2, y3, y4, y5⟩ := id tR; obtain ⟨q0, q1, q2⟩ := o9.st))
    rename_i hHeld
    clear hHeld
    have HRET := Lib.hid (ret_r (w := w) tR (by omega) o9 hlo (hb1.trans (hBel.mono hb1.size)))
    go_wp2_with fail
    exact bodyPost_ret (v := .agg #[b8, s8, t8]) (by simp [results, Try.results81, go_sem, y0, y1, y2]) rfl HRET.out
  · refine ⟨?_, ?_, ?_, ?_, ?_, ?_, ?_, ?_, trivial⟩
    · intro L a w' hI hL hd
      obtain ⟨x7, x8, x9, x10, x5, x6, vb1, vs1, vt1, vb3, vs3, vt3, N4, N5, rfl, hB, f0, f1, f2, f3, f4, f5, p4_5, c6_4, c6_1, c7_5, c7_3⟩ := hI
      have F0 := Lib.hid f0
      clear f0
      have F1 := Lib.hid f1
      clear f1
      have F2 := Lib.hid f2
      clear f2
      have F3 := Lib.hid f3
      clear f3
      have F4 := Lib.hid f4
      clear f4
      have F5 := Lib.hid f5
      clear f5
      have P4_5 := Lib.hid p4_5
      clear p4_5
      have C6_4 := Lib.hid c6_4
      clear c6_4
      have C6_1 := Lib.hid c6_1
      clear c6_1
      have C7_5 := Lib.hid c7_5
      clear c7_5
      have C7_3 := Lib.hid c7_3
      clear c7_3
      have HD := Lib.hid hd
      clear hd
      have HL := Lib.hid hL
      clear hL
      simp only [Act.put, List.setIfInBounds_toArray, List.set_cons_zero, List.set_cons_succ]
      obtain ⟨y0, y1, y2, y3, y4, y5⟩ := i0.keep hB
      refine wpOp_step rfl (fun kk hkk => ?_)
      go_simp
      refine hkk _ _ ⟨(.agg #[ax, ay_, az]), x8, x9, x10, x5, x6, vb1, vs1, vt1, vb3, vs3, vt3, N4, N5, ?_, hB, (fun _ => rfl), (fun h => ⟨(F1.out (upd_of h (by decide))).1, (F1.out (upd_of h (by decide))).2⟩), (fun h => F2.out (upd_of h (by decide))), (fun h => ⟨(F3.out (upd_of h (by decide))).1, (F3.out (upd_of h (by decide))).2⟩), (fun h => ⟨(F4.out (upd_of h (by decide))).1, (F4.out (upd_of h (by decide))).2.1, (F4.out (upd_of h (by decide))).2.2.1, fun h2 => ((F4.out (upd_of h (by decide))).2.2.2.1 (upd_of h2 (by decide))), fun h2 => ((F4.out (upd_of h (by decide))).2.2.2.2 (upd_of h2 (by decide)))⟩), (fun h => ⟨(F5.out (upd_of h (by decide))).1, (F5.out (upd_of h (by decide))).2.1, (F5.out (upd_of h (by decide))).2.2.1, fun h2 => ((F5.out (upd_of h (by decide))).2.2.2.1 (upd_of h2 (by decide))), fun h2 => ((F5.out (upd_of h (by decide))).2.2.2.2 (upd_of h2 (by decide)))⟩), (fun h h2 => P4_5.out (upd_of h (by decide)) (upd_of h2 (by decide))), (fun h => (upd_ne (by decide)).trans (C6_4.out (upd_of h (by decide)))), (fun h => (upd_ne (by decide)).trans (C6_1.out (upd_of h (by decide)))), (fun h => (upd_ne (by decide)).trans (C7_5.out (upd_of h (by decide)))), (fun h => (upd_ne (by decide)).trans (C7_3.out (upd_of h (by decide))))⟩
      first | with_reducible rfl | simp only [Act.put, List.setIfInBounds_toArray, List.set_cons_zero, List.set_cons_succ]
    · intro L a w' hI hL hd
      obtain ⟨x7, x8, x9, x10, x5, x6, vb1, vs1, vt1, vb3, vs3, vt3, N4, N5, rfl, hB, f0, f1, f2, f3, f4, f5, p4_5, c6_4, c6_1, c7_5, c7_3⟩ := hI
      obtain rfl := f0 (hd 0 (by decide))
      clear f0
      have F1 := Lib.hid f1
      clear f1
      have F2 := Lib.hid f2
      clear f2
      have F3 := Lib.hid f3
      clear f3
      have F4 := Lib.hid f4
      clear f4
      have F5 := Lib.hid f5
      clear f5
      have P4_5 := Lib.hid p4_5
      clear p4_5
      have C6_4 := Lib.hid c6_4
      clear c6_4
      have C6_1 := Lib.hid c6_1
      clear c6_1
      have C7_5 := Lib.hid c7_5
      clear c7_5
      have C7_3 := Lib.hid c7_3
      clear c7_3
      have HD := Lib.hid hd
      clear hd
      have HL := Lib.hid hL
      clear hL
      simp only [Act.put, List.setIfInBounds_toArray, List.set_cons_zero, List.set_cons_succ]
      refine wpOp_step rfl (fun kk hkk => ?_)
      go_wp2_with (first | (go_at_call 11; refine (rRNorm_v (ha.keep hB) (by omega) rfl).mono ?_; rintro e w'' ⟨vb1, vs1, vt1, rfl, o1, g⟩))
      refine ⟨(.agg #[ax, ay_, az]), (.agg #[vb1, vs1, vt1]), x9, x10, x5, x6, _, _, _, vb3, vs3, vt3, N4, N5, ?_, hB.trans (g.mono hB.size), (fun _ => rfl), (fun _ => ⟨rfl, o1.mono hB.size⟩), (fun h => F2.out (upd_of h (by decide))), (fun h => ⟨(F3.out (upd_of h (by decide))).1, (F3.out (upd_of h (by decide))).2.keep g⟩), (fun h => ⟨(F4.out (upd_of h (by decide))).1, (F4.out (upd_of h (by decide))).2.1, Nat.lt_of_lt_of_le (F4.out (upd_of h (by decide))).2.2.1 g.size, fun h2 => ((F4.out (upd_of h (by decide))).2.2.2.1 (upd_of h2 (by decide))).keep g, fun h2 => absurd (C6_1.out (upd_of h2 (by decide))) (by rw [HL.out]; decide)⟩), (fun h => ⟨(F5.out (upd_of h (by decide))).1, (F5.out (upd_of h (by decide))).2.1, Nat.lt_of_lt_of_le (F5.out (upd_of h (by decide))).2.2.1 g.size, fun h2 => ((F5.out (upd_of h (by decide))).2.2.2.1 (upd_of h2 (by decide))).keep g, fun h2 => ((F5.out (upd_of h (by decide))).2.2.2.2 (upd_of h2 (by decide))).keep g⟩), (fun h h2 => P4_5.out (upd_of h (by decide)) (upd_of h2 (by decide))), (fun h => (upd_ne (by decide)).trans (C6_4.out (upd_of h (by decide)))), (fun _ => upd_eq), (fun h => (upd_ne (by decide)).trans (C7_5.out (upd_of h (by decide)))), (fun h => (upd_ne (by decide)).trans (C7_3.out (upd_of h (by decide))))⟩
      first | with_reducible rfl | simp only [Act.put, List.setIfInBounds_toArray, List.set_cons_zero, List.set_cons_succ]
    · intro L a w' hI hL hd
      obtain ⟨x7, x8, x9, x10, x5, x6, vb1, vs1, vt1, vb3, vs3, vt3, N4, N5, rfl, hB, f0, f1, f2, f3, f4, f5, p4_5, c6_4, c6_1, c7_5, c7_3⟩ := hI
      have F0 := Lib.hid f0
      clear f0
      have F1 := Lib.hid f1
      clear f1
      have F2 := Lib.hid f2
      clear f2
      have F3 := Lib.hid f3
      clear f3
      have F4 := Lib.hid f4
      clear f4
      have F5 := Lib.hid f5
      clear f5
      have P4_5 := Lib.hid p4_5
      clear p4_5
      have C6_4 := Lib.hid c6_4
      clear c6_4
      have C6_1 := Lib.hid c6_1
      clear c6_1
      have C7_5 := Lib.hid c7_5
      clear c7_5
      have C7_3 := Lib.hid c7_3
      clear c7_3
      have HD := Lib.hid hd
      clear hd
      have HL := Lib.hid hL
      clear hL
      simp only [Act.put, List.setIfInBounds_toArray, List.set_cons_zero, List.set_cons_succ]
      obtain ⟨y0, y1, y2, y3, y4, y5⟩ := i1.keep hB
      refine wpOp_step rfl (fun kk hkk => ?_)
      go_simp
      refine hkk _ _ ⟨x7, x8, (.agg #[bx, by_, bz]), x10, x5, x6, vb1, vs1, vt1, vb3, vs3, vt3, N4, N5, ?_, hB, (fun h => F0.out (upd_of h (by decide))), (fun h => ⟨(F1.out (upd_of h (by decide))).1, (F1.out (upd_of h (by decide))).2⟩), (fun _ => rfl), (fun h => ⟨(F3.out (upd_of h (by decide))).1, (F3.out (upd_of h (by decide))).2⟩), (fun h => ⟨(F4.out (upd_of h (by decide))).1, (F4.out (upd_of h (by decide))).2.1, (F4.out (upd_of h (by decide))).2.2.1, fun h2 => ((F4.out (upd_of h (by decide))).2.2.2.1 (upd_of h2 (by decide))), fun h2 => ((F4.out (upd_of h (by decide))).2.2.2.2 (upd_of h2 (by decide)))⟩), (fun h => ⟨(F5.out (upd_of h (by decide))).1, (F5.out (upd_of h (by decide))).2.1, (F5.out (upd_of h (by decide))).2.2.1, fun h2 => ((F5.out (upd_of h (by decide))).2.2.2.1 (upd_of h2 (by decide))), fun h2 => ((F5.out (upd_of h (by decide))).2.2.2.2 (upd_of h2 (by decide)))⟩), (fun h h2 => P4_5.out (upd_of h (by decide)) (upd_of h2 (by decide))), (fun h => (upd_ne (by decide)).trans (C6_4.out (upd_of h (by decide)))), (fun h => (upd_ne (by decide)).trans (C6_1.out (upd_of h (by decide)))), (fun h => (upd_ne (by decide)).trans (C7_5.out (upd_of h (by decide)))), (fun h => (upd_ne (by decide)).trans (C7_3.out (upd_of h (by decide))))⟩
      first | with_reducible rfl | simp only [Act.put, List.setIfInBounds_toArray, List.set_cons_zero, List.set_cons_succ]
    · intro L a w' hI hL hd
      obtain ⟨x7, x8, x9, x10, x5, x6, vb1, vs1, vt1, vb3, vs3, vt3, N4, N5, rfl, hB, f0, f1, f2, f3, f4, f5, p4_5, c6_4, c6_1, c7_5, c7_3⟩ := hI
      obtain rfl := f2 (hd 2 (by decide))
      obtain ⟨rfl, o1⟩ := f1 (hd 1 (by decide))
      have F0 := Lib.hid f0
      clear f0
      clear f1
      clear f2
      have F3 := Lib.hid f3
      clear f3
      have F4 := Lib.hid f4
      clear f4
      have F5 := Lib.hid f5
      clear f5
      have P4_5 := Lib.hid p4_5
      clear p4_5
      have C6_4 := Lib.hid c6_4
      clear c6_4
      have C6_1 := Lib.hid c6_1
      clear c6_1
      have C7_5 := Lib.hid c7_5
      clear c7_5
      have C7_3 := Lib.hid c7_3
      clear c7_3
      have HD := Lib.hid hd
      clear hd
      have HL := Lib.hid hL
      clear hL
      simp only [Act.put, List.setIfInBounds_toArray, List.set_cons_zero, List.set_cons_succ]
      refine wpOp_step rfl (fun kk hkk => ?_)
      go_wp2_with (first | (go_at_call 11; refine (rRNorm_v (hb.keep hB) (by omega) rfl).mono ?_; rintro e w'' ⟨vb3, vs3, vt3, rfl, o3, g⟩))
      refine ⟨x7, (.agg #[vb1, vs1, vt1]), (.agg #[bx, by_, bz]), (.agg #[vb3, vs3, vt3]), x5, x6, vb1, vs1, vt1, _, _, _, N4, N5, ?_, hB.trans (g.mono hB.size), (fun h => F0.out (upd_of h (by decide))), (fun _ => ⟨rfl, o1.keep g⟩), (fun _ => rfl), (fun _ => ⟨rfl, o3.mono hB.size⟩), (fun h => ⟨(F4.out (upd_of h (by decide))).1, (F4.out (upd_of h (by decide))).2.1, Nat.lt_of_lt_of_le (F4.out (upd_of h (by decide))).2.2.1 g.size, fun h2 => ((F4.out (upd_of h (by decide))).2.2.2.1 (upd_of h2 (by decide))).keep g, fun h2 => ((F4.out (upd_of h (by decide))).2.2.2.2 (upd_of h2 (by decide))).keep g⟩), (fun h => ⟨(F5.out (upd_of h (by decide))).1, (F5.out (upd_of h (by decide))).2.1, Nat.lt_of_lt_of_le (F5.out (upd_of h (by decide))).2.2.1 g.size, fun h2 => ((F5.out (upd_of h (by decide))).2.2.2.1 (upd_of h2 (by decide))).keep g, fun h2 => absurd (C7_3.out (upd_of h2 (by decide))) (by rw [HL.out]; decide)⟩), (fun h h2 => P4_5.out (upd_of h (by decide)) (upd_of h2 (by decide))), (fun h => (upd_ne (by decide)).trans (C6_4.out (upd_of h (by decide)))), (fun h => (upd_ne (by decide)).trans (C6_1.out (upd_of h (by decide)))), (fun h => (upd_ne (by decide)).trans (C7_5.out (upd_of h (by decide)))), (fun _ => upd_eq)⟩
      first | with_reducible rfl | simp only [Act.put, List.setIfInBounds_toArray, List.set_cons_zero, List.set_cons_succ]
    · intro L a w' hI hL hd
      obtain ⟨x7, x8, x9, x10, x5, x6, vb1, vs1, vt1, vb3, vs3, vt3, N4, N5, rfl, hB, f0, f1, f2, f3, f4, f5, p4_5, c6_4, c6_1, c7_5, c7_3⟩ := hI
      have F0 := Lib.hid f0
      clear f0
      have F1 := Lib.hid f1
      clear f1
      have F2 := Lib.hid f2
      clear f2
      have F3 := Lib.hid f3
      clear f3
      have F4 := Lib.hid f4
      clear f4
      have F5 := Lib.hid f5
      clear f5
      have P4_5 := Lib.hid p4_5
      clear p4_5
      have C6_4 := Lib.hid c6_4
      clear c6_4
      have C6_1 := Lib.hid c6_1
      clear c6_1
      have C7_5 := Lib.hid c7_5
      clear c7_5
      have C7_3 := Lib.hid c7_3
      clear c7_3
      have HD := Lib.hid hd
      clear hd
      have HL := Lib.hid hL
      clear hL
      simp only [Act.put, List.setIfInBounds_toArray, List.set_cons_zero, List.set_cons_succ]
      refine wpOp_step rfl (fun kk hkk => ?_)
      go_simp
      refine hkk _ _ ⟨x7, x8, x9, x10, (.pointer (some ⟨w'.heap.size, 0, none⟩)), x6, vb1, vs1, vt1, vb3, vs3, vt3, w'.heap.size, N5, ?_, Below.al1 hB _, (fun h => F0.out (upd_of h (by decide))), (fun h => ⟨(F1.out (upd_of h (by decide))).1, (F1.out (upd_of h (by decide))).2.keep (bel1 _ _)⟩), (fun h => F2.out (upd_of h (by decide))), (fun h => ⟨(F3.out (upd_of h (by decide))).1, (F3.out (upd_of h (by decide))).2.keep (bel1 _ _)⟩), (fun _ => ⟨rfl, hB.size, by simp, fun _ => Bx3.new w' (.bool false) (.slice none 0 0) (.slice none 0 0), fun h2 => absurd (C6_4.out (upd_of h2 (by decide))) (by rw [HL.out]; decide)⟩), (fun h => ⟨(F5.out (upd_of h (by decide))).1, (F5.out (upd_of h (by decide))).2.1, Nat.lt_of_lt_of_le (F5.out (upd_of h (by decide))).2.2.1 (bel1 _ _).size, fun h2 => ((F5.out (upd_of h (by decide))).2.2.2.1 (upd_of h2 (by decide))).keep (bel1 _ _), fun h2 => ((F5.out (upd_of h (by decide))).2.2.2.2 (upd_of h2 (by decide))).keep (bel1 _ _)⟩), (fun _ h2 => by have hlt := (F5.out (upd_of h2 (by decide))).2.2.1; omega), (fun _ => upd_eq), (fun h => (upd_ne (by decide)).trans (C6_1.out (upd_of h (by decide)))), (fun h => (upd_ne (by decide)).trans (C7_5.out (upd_of h (by decide)))), (fun h => (upd_ne (by decide)).trans (C7_3.out (upd_of h (by decide))))⟩
      first | with_reducible rfl | simp only [Act.put, List.setIfInBounds_toArray, List.set_cons_zero, List.set_cons_succ]
    · intro L a w' hI hL hd
      obtain ⟨x7, x8, x9, x10, x5, x6, vb1, vs1, vt1, vb3, vs3, vt3, N4, N5, rfl, hB, f0, f1, f2, f3, f4, f5, p4_5, c6_4, c6_1, c7_5, c7_3⟩ := hI
      have F0 := Lib.hid f0
      clear f0
      have F1 := Lib.hid f1
      clear f1
      have F2 := Lib.hid f2
      clear f2
      have F3 := Lib.hid f3
      clear f3
      have F4 := Lib.hid f4
      clear f4
      have F5 := Lib.hid f5
      clear f5
      have P4_5 := Lib.hid p4_5
      clear p4_5
      have C6_4 := Lib.hid c6_4
      clear c6_4
      have C6_1 := Lib.hid c6_1
      clear c6_1
      have C7_5 := Lib.hid c7_5
      clear c7_5
      have C7_3 := Lib.hid c7_3
      clear c7_3
      have HD := Lib.hid hd
      clear hd
      have HL := Lib.hid hL
      clear hL
      simp only [Act.put, List.setIfInBounds_toArray, List.set_cons_zero, List.set_cons_succ]
      refine wpOp_step rfl (fun kk hkk => ?_)
      go_simp
      refine hkk _ _ ⟨x7, x8, x9, x10, x5, (.pointer (some ⟨w'.heap.size, 0, none⟩)), vb1, vs1, vt1, vb3, vs3, vt3, N4, w'.heap.size, ?_, Below.al1 hB _, (fun h => F0.out (upd_of h (by decide))), (fun h => ⟨(F1.out (upd_of h (by decide))).1, (F1.out (upd_of h (by decide))).2.keep (bel1 _ _)⟩), (fun h => F2.out (upd_of h (by decide))), (fun h => ⟨(F3.out (upd_of h (by decide))).1, (F3.out (upd_of h (by decide))).2.keep (bel1 _ _)⟩), (fun h => ⟨(F4.out (upd_of h (by decide))).1, (F4.out (upd_of h (by decide))).2.1, Nat.lt_of_lt_of_le (F4.out (upd_of h (by decide))).2.2.1 (bel1 _ _).size, fun h2 => ((F4.out (upd_of h (by decide))).2.2.2.1 (upd_of h2 (by decide))).keep (bel1 _ _), fun h2 => ((F4.out (upd_of h (by decide))).2.2.2.2 (upd_of h2 (by decide))).keep (bel1 _ _)⟩), (fun _ => ⟨rfl, hB.size, by simp, fun _ => Bx3.new w' (.bool false) (.slice none 0 0) (.slice none 0 0), fun h2 => absurd (C7_5.out (upd_of h2 (by decide))) (by rw [HL.out]; decide)⟩), (fun h2 _ => by have hlt := (F4.out (upd_of h2 (by decide))).2.2.1; omega), (fun h => (upd_ne (by decide)).trans (C6_4.out (upd_of h (by decide)))), (fun h => (upd_ne (by decide)).trans (C6_1.out (upd_of h (by decide)))), (fun _ => upd_eq), (fun h => (upd_ne (by decide)).trans (C7_3.out (upd_of h (by decide))))⟩
      first | with_reducible rfl | simp only [Act.put, List.setIfInBounds_toArray, List.set_cons_zero, List.set_cons_succ]
    · intro L a w' hI hL hd
      obtain ⟨x7, x8, x9, x10, x5, x6, vb1, vs1, vt1, vb3, vs3, vt3, N4, N5, rfl, hB, f0, f1, f2, f3, f4, f5, p4_5, c6_4, c6_1, c7_5, c7_3⟩ := hI
      obtain ⟨rfl, lo5, lt5, zb5, bx5⟩ := f5 (hd 5 (by decide))
      obtain ⟨rfl, lo4, lt4, zb4, bx4⟩ := f4 (hd 4 (by decide))
      obtain ⟨rfl, o3⟩ := f3 (hd 3 (by decide))
      obtain ⟨rfl, o1⟩ := f1 (hd 1 (by decide))
      obtain rfl := f0 (hd 0 (by decide))
      clear f0
      clear f1
      have F2 := Lib.hid f2
      clear f2
      clear f3
      clear f4
      clear f5
      have P4_5 := Lib.hid p4_5
      clear p4_5
      have C6_4 := Lib.hid c6_4
      clear c6_4
      have C6_1 := Lib.hid c6_1
      clear c6_1
      have C7_5 := Lib.hid c7_5
      clear c7_5
      have C7_3 := Lib.hid c7_3
      clear c7_3
      have HD := Lib.hid hd
      clear hd
      have HL := Lib.hid hL
      clear hL
      simp only [Act.put, List.setIfInBounds_toArray, List.set_cons_zero, List.set_cons_succ]
      refine wpOp_step rfl (fun kk hkk => ?_)
      have zb := zb4 HL.out
      obtain ⟨k0, k1, k2, k3, k4, k5⟩ := id zb
      obtain ⟨m1_0, m1_1, m1_2⟩ := o1.st
      obtain ⟨m3_0, m3_1, m3_2⟩ := o3.st
      go_simp
      refine hkk _ _ ⟨(.agg #[ax, ay_, az]), (.agg #[vb1, vs1, vt1]), x9, (.agg #[vb3, vs3, vt3]), (.pointer (some ⟨N4, 0, none⟩)), (.pointer (some ⟨N5, 0, none⟩)), vb1, vs1, vt1, vb3, vs3, vt3, N4, N5, ?_, below_put3 hB lo4 _ _ _, (fun _ => rfl), (fun _ => ⟨rfl, o1.put3 zb nol0 _ _ _⟩), (fun h => F2.out (upd_of h (by decide))), (fun _ => ⟨rfl, o3.put3 zb nol0 _ _ _⟩), (fun _ => ⟨rfl, lo4, (by simpa using lt4), fun h2 => absurd h2 (by rw [upd_eq]; decide), fun _ => zb.put _ _ _⟩), (fun h => ⟨rfl, lo5, (by simpa using lt5), fun h2 => (zb5 (upd_of h2 (by decide))).far3 (by have hne := P4_5.out (HD.out 4 (by decide)) (upd_of h (by decide)); exact fun e => hne e.symm) _ _ _, fun h2 => (bx5 (upd_of h2 (by decide))).far3 (by have hne := P4_5.out (HD.out 4 (by decide)) (upd_of h (by decide)); exact fun e => hne e.symm) _ _ _⟩), (fun h h2 => P4_5.out (upd_of h (by decide)) (upd_of h2 (by decide))), (fun _ => (upd_ne (by decide)).trans (HD.out 4 (by decide))), (fun _ => (upd_ne (by decide)).trans (HD.out 1 (by decide))), (fun h => (upd_ne (by decide)).trans (C7_5.out (upd_of h (by decide)))), (fun h => (upd_ne (by decide)).trans (C7_3.out (upd_of h (by decide))))⟩
      first | with_reducible rfl | simp only [Act.put, List.setIfInBounds_toArray, List.set_cons_zero, List.set_cons_succ]
    · intro L a w' hI hL hd
      obtain ⟨x7, x8, x9, x10, x5, x6, vb1, vs1, vt1, vb3, vs3, vt3, N4, N5, rfl, hB, f0, f1, f2, f3, f4, f5, p4_5, c6_4, c6_1, c7_5, c7_3⟩ := hI
      obtain ⟨rfl, lo5, lt5, zb5, bx5⟩ := f5 (hd 5 (by decide))
      obtain ⟨rfl, lo4, lt4, zb4, bx4⟩ := f4 (hd 4 (by decide))
      obtain ⟨rfl, o3⟩ := f3 (hd 3 (by decide))
      obtain rfl := f2 (hd 2 (by decide))
      obtain ⟨rfl, o1⟩ := f1 (hd 1 (by decide))
      obtain rfl := f0 (hd 0 (by decide))
      clear f0
      clear f1
      clear f2
      clear f3
      clear f4
      clear f5
      have P4_5 := Lib.hid p4_5
      clear p4_5
      have C6_4 := Lib.hid c6_4
      clear c6_4
      have C6_1 := Lib.hid c6_1
      clear c6_1
      have C7_5 := Lib.hid c7_5
      clear c7_5
      have C7_3 := Lib.hid c7_3
      clear c7_3
      have HD := Lib.hid hd
      clear hd
      have HL := Lib.hid hL
      clear hL
      simp only [Act.put, List.setIfInBounds_toArray, List.set_cons_zero, List.set_cons_succ]
      refine wpOp_step rfl (fun kk hkk => ?_)
      have zb := zb5 HL.out
      obtain ⟨k0, k1, k2, k3, k4, k5⟩ := id zb
      obtain ⟨m1_0, m1_1, m1_2⟩ := o1.st
      obtain ⟨m3_0, m3_1, m3_2⟩ := o3.st
      go_simp
      refine hkk _ _ ⟨(.agg #[ax, ay_, az]), (.agg #[vb1, vs1, vt1]), (.agg #[bx, by_, bz]), (.agg #[vb3, vs3, vt3]), (.pointer (some ⟨N4, 0, none⟩)), (.pointer (some ⟨N5, 0, none⟩)), vb1, vs1, vt1, vb3, vs3, vt3, N4, N5, ?_, below_put3 hB lo5 _ _ _, (fun _ => rfl), (fun _ => ⟨rfl, o1.put3 zb nol0 _ _ _⟩), (fun _ => rfl), (fun _ => ⟨rfl, o3.put3 zb nol0 _ _ _⟩), (fun h => ⟨rfl, lo4, (by simpa using lt4), fun h2 => (zb4 (upd_of h2 (by decide))).far3 (by have hne := P4_5.out (upd_of h (by decide)) (HD.out 5 (by decide)); exact hne) _ _ _, fun h2 => (bx4 (upd_of h2 (by decide))).far3 (by have hne := P4_5.out (upd_of h (by decide)) (HD.out 5 (by decide)); exact hne) _ _ _⟩), (fun _ => ⟨rfl, lo5, (by simpa using lt5), fun h2 => absurd h2 (by rw [upd_eq]; decide), fun _ => zb.put _ _ _⟩), (fun h h2 => P4_5.out (upd_of h (by decide)) (upd_of h2 (by decide))), (fun h => (upd_ne (by decide)).trans (C6_4.out (upd_of h (by decide)))), (fun h => (upd_ne (by decide)).trans (C6_1.out (upd_of h (by decide)))), (fun _ => (upd_ne (by decide)).trans (HD.out 5 (by decide))), (fun _ => (upd_ne (by decide)).trans (HD.out 3 (by decide)))⟩
      first | with_reducible rfl | simp only [Act.put, List.setIfInBounds_toArray, List.set_cons_zero, List.set_cons_succ]

/- Contracts of rational.Sub, FromInt, Min, Max; reference 03: Sub, Compare, Canonical, Ceil. -/

theorem raw_rat {w : World} {A B : Option Addr} {xs ys : List Nat} {c d : Nat} (p : Bool) (h : Lim w A c xs) (g : Lim w B d ys) (k : xs.length ≤ 1048576) (l : ys.length ≤ 1048576) : IsRat w (.bool p) (.slice A xs.length c) (.slice B ys.length d) (rv p xs ys) 1048576 := ⟨p, A, xs, c, B, ys, d, rfl, rfl, rfl, h, g, k, l, by decide, rfl⟩
theorem sz_zero {K : Nat} (h : 1 ≤ K) : Sz 0 K := ⟨by show (limbs 0).length ≤ _; rw [limbs_zero]; exact Nat.zero_le _, by show (limbs 1).length ≤ _; rw [limbs1_len]; exact h⟩
theorem sz_one {K : Nat} (h : 1 ≤ K) : Sz 1 K := ⟨by show (limbs 1).length ≤ _; rw [limbs1_len]; exact h, by show (limbs 1).length ≤ _; rw [limbs1_len]; exact h⟩
theorem rv_not (p : Bool) (xs ys : List Nat) : rv (!p) xs ys = - rv p xs ys := by unfold rv; rw [iv_not, Rat.neg_mkRat]
theorem IsRat.negv {w : World} {b s t : Value} {r : Rat} {K : Nat} (h : IsRat w b s t r K) : ∃ p, b = .bool p ∧ IsRat w (.bool (!p)) s t (-r) K := by
  obtain ⟨p, A, xs, c, B, ys, d, rfl, rfl, rfl, ha, hd, hs, ht, h1, hr⟩ := h
  exact ⟨p, rfl, !p, A, xs, c, B, ys, d, rfl, rfl, rfl, ha, hd, hs, ht, h1, by rw [rv_not, hr]⟩
theorem sgn_cmpR {r s t : Rat} (e : r - s = t) : sgn t.num = cmpR r s := by
  have h0 : ∀ x : Rat, 0 < x ↔ 0 < x.num := fun x => by rw [Rat.lt_iff]; simp
  have a1 : r < s ↔ t.num < 0 := by
    rw [Rat.lt_iff_sub_pos, h0, ← e, show s - r = -(r - s) by rw [Rat.neg_sub], Rat.neg_num]; omega
  have a2 : s < r ↔ 0 < t.num := by rw [Rat.lt_iff_sub_pos, h0, e]
  unfold sgn cmpR
  simp only [a1, a2]
theorem Sz.sub {r s t : Rat} {k j : Nat} (h : Sz r k) (h2 : Sz s k) (e : r - s = t) (hj : k + k + 1 ≤ j) : Sz t j := by
  rw [Rat.sub_eq_add_neg] at e
  exact h.add (h2.neg rfl) e hj

set_option maxRecDepth 100000 in
set_option maxHeartbeats 2000000 in
theorem RSub_v {w : World} {ax ay_ az : Value} {ra : Rat} {bx by_ bz : Value} {rb : Rat} {K : Nat} {q : Rat} (ha : IsRat w ax ay_ az ra K) (hb : IsRat w bx by_ bz rb K) (hK : K ≤ 1099511627776) (e : ra - rb = q) : Calls Try.prog 24 #[.agg #[ax, ay_, az], .agg #[bx, by_, bz]] w (RetR w q) := by
  obtain ⟨p, rfl, hn⟩ := hb.negv
  clear hb
  have hb := hn
  clear hn
  obtain ⟨W, hW, hbW, i0, i1, i2⟩ : ∃ W, ((w.alloc (.cells #[ax, ay_, az] 26)).alloc (.cells #[.bool (!p), by_, bz] 26)).alloc (.cells #[.bool false, .slice none 0 0, .slice none 0 0] 26) = W ∧ Below w.heap.size w W ∧ Bx3 W (w.heap.size) ax ay_ az ∧ Bx3 W (w.heap.size + 1) (.bool (!p)) by_ bz ∧ Bx3 W (w.heap.size + 1 + 1) (.bool false) (.slice none 0 0) (.slice none 0 0) := ⟨_, rfl, (((Below.refl _ _).alloc (by simp <;> omega) _).alloc (by simp <;> omega) _).alloc (by simp <;> omega) _, by refine ⟨?_, ?_, ?_, ?_, ?_, ?_⟩ <;> go_simp, by refine ⟨?_, ?_, ?_, ?_, ?_, ?_⟩ <;> go_simp, by refine ⟨?_, ?_, ?_, ?_, ?_, ?_⟩ <;> go_simp⟩
  have ji0 := i0.lt; have x00 := i0.c0; have x01 := i0.c1; have x02 := i0.c2
  have ji1 := i1.lt; have x10 := i1.c0; have x11 := i1.c1; have x12 := i1.c2
  have ji2 := i2.lt; have x20 := i2.c0; have x21 := i2.c1; have x22 := i2.c2
  have HW := Lib.hid hW
  clear hW
  replace ha := ha.keep hbW
  replace hb := hb.keep hbW
  have eq : ra + -rb = q := by rw [← Rat.sub_eq_add_neg]; exact e
  clear e
  have EQ := Lib.hid eq
  clear eq
  go_enter Try.func24, Try.ntmps24
  go_wp2_with fail
  rw [HW.out]
  refine (RAdd_v ha hb hK EQ.out).mono ?_
  rintro e w1 ⟨b1, s1, t1, rfl, o1, g1⟩
  have tR := i2.keep g1
  obtain ⟨y0, y1, y2, y3, y4, y5⟩ := id tR
  obtain ⟨q0, q1, q2⟩ := o1.st
  have HRET := Lib.hid (ret_r (w := w) tR (by omega) o1 hbW.size (hbW.trans (g1.mono hbW.size)))
  clear o1 tR
  go_wp2_with fail
  exact bodyPost_ret (v := .agg #[b1, s1, t1]) (by simp [results, Try.results24, go_sem, y0, y1, y2]) rfl HRET.out
set_option maxRecDepth 100000 in
set_option maxHeartbeats 2000000 in
theorem RMin_v {w : World} {ax ay_ az : Value} {ra : Rat} {bx by_ bz : Value} {rb : Rat} {K : Nat} {q : Rat} (ha : IsRat w ax ay_ az ra K) (hb : IsRat w bx by_ bz rb K) (hK : K ≤ 4294967296) (e : (if cmpR ra rb ≤ 0 then ra else rb) = q) : Calls Try.prog 26 #[.agg #[ax, ay_, az], .agg #[bx, by_, bz]] w (RetR w q) := by
  obtain ⟨W, hW, hbW, i0, i1, i2⟩ : ∃ W, ((w.alloc (.cells #[ax, ay_, az] 26)).alloc (.cells #[bx, by_, bz] 26)).alloc (.cells #[.bool false, .slice none 0 0, .slice none 0 0] 26) = W ∧ Below w.heap.size w W ∧ Bx3 W (w.heap.size) ax ay_ az ∧ Bx3 W (w.heap.size + 1) bx by_ bz ∧ Bx3 W (w.heap.size + 1 + 1) (.bool false) (.slice none 0 0) (.slice none 0 0) := ⟨_, rfl, (((Below.refl _ _).alloc (by simp <;> omega) _).alloc (by simp <;> omega) _).alloc (by simp <;> omega) _, by refine ⟨?_, ?_, ?_, ?_, ?_, ?_⟩ <;> go_simp, by refine ⟨?_, ?_, ?_, ?_, ?_, ?_⟩ <;> go_simp, by refine ⟨?_, ?_, ?_, ?_, ?_, ?_⟩ <;> go_simp⟩
  have ji0 := i0.lt; have x00 := i0.c0; have x01 := i0.c1; have x02 := i0.c2
  have ji1 := i1.lt; have x10 := i1.c0; have x11 := i1.c1; have x12 := i1.c2
  have ji2 := i2.lt; have x20 := i2.c0; have x21 := i2.c1; have x22 := i2.c2
  have HW := Lib.hid hW
  clear hW
  replace ha := ha.keep hbW
  replace hb := hb.keep hbW
  obtain ⟨c, ec⟩ : ∃ x, cmpR ra rb = x := ⟨_, rfl⟩
  rw [ec] at e
  have EC := Lib.hid ec
  clear ec
  go_enter Try.func26, Try.ntmps26
  go_wp2_with fail
  rw [HW.out]
  refine (RCmp_v ha hb (by omega) EC.out).mono ?_
  rintro e' w1 ⟨rfl, g1⟩
  replace ha := ha.keep g1
  replace hb := hb.keep g1
  replace i0 := i0.keep g1
  replace i1 := i1.keep g1
  replace i2 := i2.keep g1
  have hb1 := hbW.trans (g1.mono hbW.size)
  clear x00 x01 x02 x10 x11 x12
  have x00 := i0.c0
  have x01 := i0.c1
  have x02 := i0.c2
  have x10 := i1.c0
  have x11 := i1.c1
  have x12 := i1.c2
  by_cases hc : c ≤ 0
  · rw [if_pos hc] at e
    have E := Lib.hid e
    clear e
    go_wp2_with fail
    refine (RNorm_v ha (by omega) E.out).mono ?_
    rintro e w2 ⟨b2, s2, t2, rfl, o2, g2⟩
    have tR := i2.keep g2
    obtain ⟨y0, y1, y2, y3, y4, y5⟩ := id tR
    obtain ⟨q0, q1, q2⟩ := o2.st
    have HRET := Lib.hid (ret_r (w := w) tR (by omega) o2 hb1.size (hb1.trans (g2.mono hb1.size)))
    clear o2 tR
    go_wp2_with fail
    exact bodyPost_ret (v := .agg #[b2, s2, t2]) (by simp [results, Try.results26, go_sem, y0, y1, y2]) rfl HRET.out
  · rw [if_neg hc] at e
    have E := Lib.hid e
    clear e
    go_wp2_with fail
    refine (RNorm_v hb (by omega) E.out).mono ?_
    rintro e w2 ⟨b2, s2, t2, rfl, o2, g2⟩
    have tR := i2.keep g2
    obtain ⟨y0, y1, y2, y3, y4, y5⟩ := id tR
    obtain ⟨q0, q1, q2⟩ := o2.st
    have HRET := Lib.hid (ret_r (w := w) tR (by omega) o2 hb1.size (hb1.trans (g2.mono hb1.size)))
    clear o2 tR
    go_wp2_with fail
    exact bodyPost_ret (v := .agg #[b2, s2, t2]) (by simp [results, Try.results26, go_sem, y0, y1, y2]) rfl HRET.out
set_option maxRecDepth 100000 in
set_option maxHeartbeats 2000000 in
theorem RMax_v {w : World} {ax ay_ az : Value} {ra : Rat} {bx by_ bz : Value} {rb : Rat} {K : Nat} {q : Rat} (ha : IsRat w ax ay_ az ra K) (hb : IsRat w bx by_ bz rb K) (hK : K ≤ 4294967296) (e : (if 0 ≤ cmpR ra rb then ra else rb) = q) : Calls Try.prog 27 #[.agg #[ax, ay_, az], .agg #[bx, by_, bz]] w (RetR w q) := by
  obtain ⟨W, hW, hbW, i0, i1, i2⟩ : ∃ W, ((w.alloc (.cells #[ax, ay_, az] 26)).alloc (.cells #[bx, by_, bz] 26)).alloc (.cells #[.bool false, .slice none 0 0, .slice none 0 0] 26) = W ∧ Below w.heap.size w W ∧ Bx3 W (w.heap.size) ax ay_ az ∧ Bx3 W (w.heap.size + 1) bx by_ bz ∧ Bx3 W (w.heap.size + 1 + 1) (.bool false) (.slice none 0 0) (.slice none 0 0) := ⟨_, rfl, (((Below.refl _ _).alloc (by simp <;> omega) _).alloc (by simp <;> omega) _).alloc (by simp <;> omega) _, by refine ⟨?_, ?_, ?_, ?_, ?_, ?_⟩ <;> go_simp, by refine ⟨?_, ?_, ?_, ?_, ?_, ?_⟩ <;> go_simp, by refine ⟨?_, ?_, ?_, ?_, ?_, ?_⟩ <;> go_simp⟩
  have ji0 := i0.lt; have x00 := i0.c0; have x01 := i0.c1; have x02 := i0.c2
  have ji1 := i1.lt; have x10 := i1.c0; have x11 := i1.c1; have x12 := i1.c2
  have ji2 := i2.lt; have x20 := i2.c0; have x21 := i2.c1; have x22 := i2.c2
  have HW := Lib.hid hW
  clear hW
  replace ha := ha.keep hbW
  replace hb := hb.keep hbW
  obtain ⟨c, ec⟩ : ∃ x, cmpR ra rb = x := ⟨_, rfl⟩
  rw [ec] at e
  have EC := Lib.hid ec
  clear ec
  go_enter Try.func27, Try.ntmps27
  go_wp2_with fail
  rw [HW.out]
  refine (RCmp_v ha hb (by omega) EC.out).mono ?_
  rintro e' w1 ⟨rfl, g1⟩
  replace ha := ha.keep g1
  replace hb := hb.keep g1
  replace i0 := i0.keep g1
  replace i1 := i1.keep g1
  replace i2 := i2.keep g1
  have hb1 := hbW.trans (g1.mono hbW.size)
  clear x00 x01 x02 x10 x11 x12
  have x00 := i0.c0
  have x01 := i0.c1
  have x02 := i0.c2
  have x10 := i1.c0
  have x11 := i1.c1
  have x12 := i1.c2
  by_cases hc : 0 ≤ c
  · rw [if_pos hc] at e
    have E := Lib.hid e
    clear e
    go_wp2_with fail
    refine (RNorm_v ha (by omega) E.out).mono ?_
    rintro e w2 ⟨b2, s2, t2, rfl, o2, g2⟩
    have tR := i2.keep g2
    obtain ⟨y0, y1, y2, y3, y4, y5⟩ := id tR
    obtain ⟨q0, q1, q2⟩ := o2.st
    have HRET := Lib.hid (ret_r (w := w) tR (by omega) o2 hb1.size (hb1.trans (g2.mono hb1.size)))
    clear o2 tR
    go_wp2_with fail
    exact bodyPost_ret (v := .agg #[b2, s2, t2]) (by simp [results, Try.results27, go_sem, y0, y1, y2]) rfl HRET.out
  · rw [if_neg hc] at e
    have E := Lib.hid e
    clear e
    go_wp2_with fail
    refine (RNorm_v hb (by omega) E.out).mono ?_
    rintro e w2 ⟨b2, s2, t2, rfl, o2, g2⟩
    have tR := i2.keep g2
    obtain ⟨y0, y1, y2, y3, y4, y5⟩ := id tR
    obtain ⟨q0, q1, q2⟩ := o2.st
    have HRET := Lib.hid (ret_r (w := w) tR (by omega) o2 hb1.size (hb1.trans (g2.mono hb1.size)))
    clear o2 tR
    go_wp2_with fail
    exact bodyPost_ret (v := .agg #[b2, s2, t2]) (by simp [results, Try.results27, go_sem, y0, y1, y2]) rfl HRET.out
set_option maxRecDepth 100000 in
set_option maxHeartbeats 2000000 in
theorem rRSub_v {w : World} {ax ay_ az : Value} {ra : Rat} {bx by_ bz : Value} {rb : Rat} {K : Nat} {q : Rat} (ha : IsRat w ax ay_ az ra K) (hb : IsRat w bx by_ bz rb K) (hK : K ≤ 68719476736) (e : ra - rb = q) : Calls Try.prog 46 #[.agg #[ax, ay_, az], .agg #[bx, by_, bz]] w (RetR w q) := by
  obtain ⟨W, hW, hbW, i0, i1, i2⟩ : ∃ W, ((w.alloc (.cells #[ax, ay_, az] 26)).alloc (.cells #[bx, by_, bz] 26)).alloc (.cells #[.bool false, .slice none 0 0, .slice none 0 0] 26) = W ∧ Below w.heap.size w W ∧ Bx3 W (w.heap.size) ax ay_ az ∧ Bx3 W (w.heap.size + 1) bx by_ bz ∧ Bx3 W (w.heap.size + 1 + 1) (.bool false) (.slice none 0 0) (.slice none 0 0) := ⟨_, rfl, (((Below.refl _ _).alloc (by simp <;> omega) _).alloc (by simp <;> omega) _).alloc (by simp <;> omega) _, by refine ⟨?_, ?_, ?_, ?_, ?_, ?_⟩ <;> go_simp, by refine ⟨?_, ?_, ?_, ?_, ?_, ?_⟩ <;> go_simp, by refine ⟨?_, ?_, ?_, ?_, ?_, ?_⟩ <;> go_simp⟩
  have ji0 := i0.lt; have x00 := i0.c0; have x01 := i0.c1; have x02 := i0.c2
  have ji1 := i1.lt; have x10 := i1.c0; have x11 := i1.c1; have x12 := i1.c2
  have ji2 := i2.lt; have x20 := i2.c0; have x21 := i2.c1; have x22 := i2.c2
  have HW := Lib.hid hW
  clear hW
  replace ha := ha.keep hbW
  replace hb := hb.keep hbW
  obtain ⟨n, en⟩ : ∃ x, -rb = x := ⟨_, rfl⟩
  have zn : Sz n K := hb.sz.neg en
  have eq : ra + n = q := by rw [← en, ← Rat.sub_eq_add_neg]; exact e
  clear e
  have EN := Lib.hid en
  clear en
  have EQ := Lib.hid eq
  clear eq
  have tk0 : True := trivial
  have tk1 : True := trivial
  have nz0 : w.heap.size ≠ w.heap.size + 1 + 1 := by omega
  have nz1 : w.heap.size + 1 ≠ w.heap.size + 1 + 1 := by omega
  go_enter Try.func46, Try.ntmps46
  go_wp2_with fail
  rw [HW.out]
  have hBel : Below W.heap.size W W.drew := (Below.refl _ _).drew
  go_region_held3 (fun w' => w'.cell? ⟨w.heap.size, 0, none⟩ = some ax ∧ w'.cell? ⟨w.heap.size, 1, none⟩ = some ay_ ∧ w'.cell? ⟨w.heap.size, 2, none⟩ = some az ∧ w'.cell? ⟨w.heap.size + 1, 0, none⟩ = some bx ∧ w'.cell? ⟨w.heap.size + 1, 1, none⟩ = some by_ ∧ w'.cell? ⟨w.heap.size + 1, 2, none⟩ = some bz)
    (first | (with_reducible exact ⟨cellB hBel ji0 x00, cellB hBel ji0 x01, cellB hBel ji0 x02, cellB hBel ji1 x10, cellB hBel ji1 x11, cellB hBel ji1 x12⟩) | (with_reducible exact ⟨(cellF3 nz0 _ _ _).trans (cellB hBel ji0 x00), (cellF3 nz0 _ _ _).trans (cellB hBel ji0 x01), (cellF3 nz0 _ _ _).trans (cellB hBel ji0 x02), (cellF3 nz1 _ _ _).trans (cellB hBel ji1 x10), (cellF3 nz1 _ _ _).trans (cellB hBel ji1 x11), (cellF3 nz1 _ _ _).trans (cellB hBel ji1 x12)⟩) | go_keep)
    (first
      | (go_at_call 74; have _t := tk0; clear tk0; refine (rRNeg_v (hb.keep hBel) (by omega) EN.out).mono ?_; rintro e v0 ⟨b0, s0, t0, rfl, o0, g0⟩; replace hBel := hBel.trans (g0.mono hBel.size))
      | (go_at_call 81; have _t := tk1; clear tk1; refine (rRAdd_v (ha.keep hBel) (o0.is zn) (by omega) EQ.out).mono ?_; rintro e v1 ⟨b1, s1, t1, rfl, o1, g1⟩; have hlo := Nat.le_trans hbW.size hBel.size; replace hBel := hBel.trans (g1.mono hBel.size); have tR := i2.keep hBel; obtain ⟨y0, y1, y2, y3, y4, y5⟩ := id tR; obtain ⟨q0, q1, q2⟩ := o1.st))
  rename_i hHeld
  clear hHeld
  have HRET := Lib.hid (ret_r (w := w) tR (by omega) o1 hlo (hbW.trans (hBel.mono hbW.size)))
  go_wp2_with fail
  exact bodyPost_ret (v := .agg #[b1, s1, t1]) (by simp [results, Try.results46, go_sem, y0, y1, y2]) rfl HRET.out
set_option maxRecDepth 100000 in
set_option maxHeartbeats 2000000 in
theorem rRCmp_v {w : World} {ax ay_ az : Value} {ra : Rat} {bx by_ bz : Value} {rb : Rat} {K : Nat} {q : Int} (ha : IsRat w ax ay_ az ra K) (hb : IsRat w bx by_ bz rb K) (hK : K ≤ 34359738368) (e : cmpR ra rb = q) : Calls Try.prog 8 #[.agg #[ax, ay_, az], .agg #[bx, by_, bz]] w (RetI w q) := by
  obtain ⟨W, hW, hbW, i0, i1⟩ : ∃ W, (w.alloc (.cells #[ax, ay_, az] 26)).alloc (.cells #[bx, by_, bz] 26) = W ∧ Below w.heap.size w W ∧ Bx3 W (w.heap.size) ax ay_ az ∧ Bx3 W (w.heap.size + 1) bx by_ bz := ⟨_, rfl, ((Below.refl _ _).alloc (by simp <;> omega) _).alloc (by simp <;> omega) _, by refine ⟨?_, ?_, ?_, ?_, ?_, ?_⟩ <;> go_simp, by refine ⟨?_, ?_, ?_, ?_, ?_, ?_⟩ <;> go_simp⟩
  have ji0 := i0.lt; have x00 := i0.c0; have x01 := i0.c1; have x02 := i0.c2
  have ji1 := i1.lt; have x10 := i1.c0; have x11 := i1.c1; have x12 := i1.c2
  have HW := Lib.hid hW
  clear hW
  replace ha := ha.keep hbW
  replace hb := hb.keep hbW
  obtain ⟨d, ed⟩ : ∃ x, ra - rb = x := ⟨_, rfl⟩
  have zd : Sz d (K + K + 1) := ha.sz.sub hb.sz ed (by omega)
  have eq : sgn d.num = q := (sgn_cmpR ed).trans e
  clear e
  have ED := Lib.hid ed
  clear ed
  have EQ := Lib.hid eq
  clear eq
  go_enter Try.func8, Try.ntmps8
  go_wp2_with fail
  rw [HW.out]
  refine (rRSub_v ha hb (by omega) ED.out).mono ?_
  rintro e w1 ⟨b1, s1, t1, rfl, o1, g1⟩
  go_wp2_with fail
  refine (rRSign_v (o1.is zd) (by omega) EQ.out).mono ?_
  rintro e w2 ⟨rfl, g2⟩
  go_wp2_with fail
  go_ret
  exact ⟨rfl, hbW.trans ((g1.trans (g2.mono g1.size)).mono hbW.size)⟩

end Go.Proofs.Ytaeidephegnkdaa
