/- The walk of the statement RationalCanonical: it returns true. -/
import Derived.Test.YtdcofnjekdkifaaMW
namespace Go.Proofs.Ytdcofnjekdkifaa
open Go.RowKit Gm

theorem cmpR_self (r : Rat) : cmpR r r = 0 := by
  unfold cmpR
  rw [if_neg Rat.lt_irrefl, if_neg Rat.lt_irrefl]
theorem cmpR_ne {r s : Rat} (h : r ≠ s) : cmpR r s = -1 ∨ cmpR r s = 1 := by
  unfold cmpR
  by_cases h1 : r < s
  · rw [if_pos h1]; exact .inl rfl
  · rw [if_neg h1]
    by_cases h2 : s < r
    · rw [if_pos h2]; exact .inr rfl
    · exact absurd (Rat.le_antisymm (Rat.not_lt.1 h2) (Rat.not_lt.1 h1)) h

set_option maxRecDepth 100000 in
set_option maxHeartbeats 8000000 in
theorem rcanonical_v {w : World} {ax ay_ az : Value} {ra : Rat} {bx by_ bz : Value} {rb : Rat} (ha : IsRat w ax ay_ az ra 1048576) (hb : IsRat w bx by_ bz rb 1048576) : Calls Try.prog 3 #[.agg #[ax, ay_, az], .agg #[bx, by_, bz]] w (RetB w true) := by
  obtain ⟨W, hW, hbW, i0, i1⟩ : ∃ W, (w.alloc (.cells #[ax, ay_, az] 26)).alloc (.cells #[bx, by_, bz] 26) = W ∧ Below w.heap.size w W ∧ Bx3 W (w.heap.size) ax ay_ az ∧ Bx3 W (w.heap.size + 1) bx by_ bz := ⟨_, rfl, ((Below.refl _ _).alloc (by simp <;> omega) _).alloc (by simp <;> omega) _, by refine ⟨?_, ?_, ?_, ?_, ?_, ?_⟩ <;> go_simp, by refine ⟨?_, ?_, ?_, ?_, ?_, ?_⟩ <;> go_simp⟩
  have ji0 := i0.lt; have x00 := i0.c0; have x01 := i0.c1; have x02 := i0.c2
  have ji1 := i1.lt; have x10 := i1.c0; have x11 := i1.c1; have x12 := i1.c2
  have HW := Lib.hid hW
  clear hW
  replace ha := ha.keep hbW
  replace hb := hb.keep hbW
  have za := ha.sz
  have zb := hb.sz
  have tk0 : True := trivial
  have tk1 : True := trivial
  have tk2 : True := trivial
  have tk3 : True := trivial
  have tk4 : True := trivial
  have tk5 : True := trivial
  go_enter Try.func3, Try.ntmps3
  go_wp2_with fail
  rw [HW.out]
  refine wp_region_inv (by kernel_rfl) [[], [0], [], [2, 1], [], [], [4, 1, 3, 0, 1, 4, 5], [5, 3, 6, 0, 1, 2, 3, 4, 5, 6]] (by kernel_rfl) (by kernel_rfl) (fun fa L a w' => ∃ x7 x8 x9 x10 x5 x6 vb1 vs1 vt1 vb3 vs3 vt3 : Value, ∃ N4 N5 : Nat, a = ((((((fa.put (some 7) x7).put (some 8) x8).put (some 9) x9).put (some 10) x10).put (some 5) x5).put (some 6) x6) ∧ Below W.heap.size W w' ∧ (L 0 = true → x7 = .agg #[ax, ay_, az]) ∧ (L 1 = true → x8 = .agg #[vb1, vs1, vt1] ∧ OwRat W.heap.size w' vb1 vs1 vt1 ra) ∧ (L 2 = true → x9 = .agg #[bx, by_, bz]) ∧ (L 3 = true → x10 = .agg #[vb3, vs3, vt3] ∧ OwRat W.heap.size w' vb3 vs3 vt3 rb) ∧ (L 4 = true → x5 = .pointer (some ⟨N4, 0, none⟩) ∧ W.heap.size ≤ N4 ∧ N4 < w'.heap.size ∧ (L 6 = false → Bx3 w' N4 (.bool false) (.slice none 0 0) (.slice none 0 0)) ∧ (L 6 = true → Bx3 w' N4 vb1 vs1 vt1)) ∧ (L 5 = true → x6 = .pointer (some ⟨N5, 0, none⟩) ∧ W.heap.size ≤ N5 ∧ N5 < w'.heap.size ∧ (L 7 = false → Bx3 w' N5 (.bool false) (.slice none 0 0) (.slice none 0 0)) ∧ (L 7 = true → Bx3 w' N5 vb3 vs3 vt3)) ∧ (L 4 = true → L 5 = true → N4 ≠ N5) ∧ (L 6 = true → L 4 = true) ∧ (L 6 = true → L 1 = true) ∧ (L 7 = true → L 5 = true) ∧ (L 7 = true → L 3 = true)) ?_ ?_ ?_
  · intro fa
    exact ⟨fa.tmps.getD 7 undef, fa.tmps.getD 8 undef, fa.tmps.getD 9 undef, fa.tmps.getD 10 undef, fa.tmps.getD 5 undef, fa.tmps.getD 6 undef, undef, undef, undef, undef, undef, undef, 0, 0, (by simp only [put_get]), (Below.refl _ _).drew, (fun h => absurd h (by decide)), (fun h => absurd h (by decide)), (fun h => absurd h (by decide)), (fun h => absurd h (by decide)), (fun h => absurd h (by decide)), (fun h => absurd h (by decide)), (fun h => absurd h (by decide)), (fun h => absurd h (by decide)), (fun h => absurd h (by decide)), (fun h => absurd h (by decide)), (fun h => absurd h (by decide))⟩
  · intro L a w' hall hI
    obtain ⟨x7, x8, x9, x10, x5, x6, vb1, vs1, vt1, vb3, vs3, vt3, N4, N5, rfl, hB, f0, f1, f2, f3, f4, f5, p4_5, c6_4, c6_1, c7_5, c7_3⟩ := hI
    obtain rfl := f0 (hall 0 (by decide))
    obtain ⟨rfl, o1⟩ := f1 (hall 1 (by decide))
    obtain rfl := f2 (hall 2 (by decide))
    obtain ⟨rfl, o3⟩ := f3 (hall 3 (by decide))
    obtain ⟨rfl, lo4, lt4, _, bx4⟩ := f4 (hall 4 (by decide))
    replace bx4 := bx4 (hall 6 (by decide))
    obtain ⟨rfl, lo5, lt5, _, bx5⟩ := f5 (hall 5 (by decide))
    replace bx5 := bx5 (hall 7 (by decide))
    replace p4_5 := p4_5 (hall 4 (by decide)) (hall 5 (by decide))
    clear f0 f1 f2 f3 f4 f5 c6_4 c6_1 c7_5 c7_3 hall
    simp only [Act.put, List.setIfInBounds_toArray, List.set_cons_zero, List.set_cons_succ]
    replace ha := ha.keep hB
    replace hb := hb.keep hB
    replace i0 := i0.keep hB
    replace i1 := i1.keep hB
    have hb1 := hbW.trans (hB.mono hbW.size)
    clear x00 x01 x02 x10 x11 x12 hB hbW HW
    have ji0 := i0.lt; have x00 := i0.c0; have x01 := i0.c1; have x02 := i0.c2
    have ji1 := i1.lt; have x10 := i1.c0; have x11 := i1.c1; have x12 := i1.c2
    have jbx4 := bx4.lt; have cu0 := bx4.c0; have cu1 := bx4.c1; have cu2 := bx4.c2
    have jbx5 := bx5.lt; have cv0 := bx5.c0; have cv1 := bx5.c1; have cv2 := bx5.c2
    go_wp2_with fail
    by_cases hab : ra = rb
    · have HQ := Lib.hid (decide_eq_true hab)
      have HC := Lib.hid (show cmpR ra rb = 0 by rw [hab]; exact cmpR_self _)
      clear hab
      have hBel : Below w'.heap.size w' w'.drew := (Below.refl _ _).drew
      replace o1 := o1.keep hBel
      replace o3 := o3.keep hBel
      go_region_held3 (fun w' => w'.cell? ⟨w.heap.size, 0, none⟩ = some ax ∧ w'.cell? ⟨w.heap.size, 1, none⟩ = some ay_ ∧ w'.cell? ⟨w.heap.size, 2, none⟩ = some az ∧ w'.cell? ⟨w.heap.size + 1, 0, none⟩ = some bx ∧ w'.cell? ⟨w.heap.size + 1, 1, none⟩ = some by_ ∧ w'.cell? ⟨w.heap.size + 1, 2, none⟩ = some bz ∧ w'.cell? ⟨N4, 0, none⟩ = some vb1 ∧ w'.cell? ⟨N4, 1, none⟩ = some vs1 ∧ w'.cell? ⟨N4, 2, none⟩ = some vt1 ∧ w'.cell? ⟨N5, 0, none⟩ = some vb3 ∧ w'.cell? ⟨N5, 1, none⟩ = some vs3 ∧ w'.cell? ⟨N5, 2, none⟩ = some vt3)
        (first | (with_reducible exact ⟨cellB hBel ji0 x00, cellB hBel ji0 x01, cellB hBel ji0 x02, cellB hBel ji1 x10, cellB hBel ji1 x11, cellB hBel ji1 x12, cellB hBel jbx4 cu0, cellB hBel jbx4 cu1, cellB hBel jbx4 cu2, cellB hBel jbx5 cv0, cellB hBel jbx5 cv1, cellB hBel jbx5 cv2⟩) | go_keep)
        (first
          | (go_at_call 11; have _t := tk0; clear tk0; refine (awake3_c _).mono ?_; rintro e v0 ⟨rfl, g0⟩; replace o1 := o1.keep g0; replace o3 := o3.keep g0; replace hBel := hBel.trans (g0.mono hBel.size))
          | (go_at_call 12; have _t := tk1; clear tk1; refine (rCanon_v (K := 1048576) o1 za (by decide)).mono ?_; rintro e v1 ⟨rfl, g1⟩; replace o1 := o1.keep g1; replace o3 := o3.keep g1; replace hBel := hBel.trans (g1.mono hBel.size))
          | (go_at_call 13; have _t := tk2; clear tk2; refine (rREq_v (K := 1048576) o1 o3 za zb (by decide) HQ.out).mono ?_; rintro e v2 ⟨rfl, g2⟩; replace o1 := o1.keep g2; replace o3 := o3.keep g2; replace hBel := hBel.trans (g2.mono hBel.size))
          | (go_at_call 14; have _t := tk3; clear tk3; refine (rRCmp_v (K := 1048576) (ha.keep hBel) (hb.keep hBel) (by decide) HC.out).mono ?_; rintro e v3 ⟨rfl, g3⟩; replace o1 := o1.keep g3; replace o3 := o3.keep g3; replace hBel := hBel.trans (g3.mono hBel.size))
          | (go_at_call 10; have _t := tk4; clear tk4; refine (RNorm_v (K := 1048576) (o1.is za) (by decide) rfl).mono ?_; rintro e v4 ⟨b9, s9, t9, rfl, o9, g4⟩; replace o1 := o1.keep g4; replace o3 := o3.keep g4; replace hBel := hBel.trans (g4.mono hBel.size))
          | (go_at_call 13; have _t := tk5; clear tk5; refine (rREq_v (K := 1048576) o9 o1 za za (by decide) (decide_eq_true rfl)).mono ?_; rintro e v5 ⟨rfl, g5⟩; replace hBel := hBel.trans (g5.mono hBel.size)))
      rename_i hHeld
      clear hHeld
      go_wp2_with fail
      go_ret
      exact ⟨rfl, hb1.trans (hBel.mono hb1.size)⟩
    · have HQ := Lib.hid (decide_eq_false hab)
      rcases cmpR_ne hab with hc | hc
      · have HC := Lib.hid hc
        clear hc hab
        have hBel : Below w'.heap.size w' w'.drew := (Below.refl _ _).drew
        replace o1 := o1.keep hBel
        replace o3 := o3.keep hBel
        go_region_held3 (fun w' => w'.cell? ⟨w.heap.size, 0, none⟩ = some ax ∧ w'.cell? ⟨w.heap.size, 1, none⟩ = some ay_ ∧ w'.cell? ⟨w.heap.size, 2, none⟩ = some az ∧ w'.cell? ⟨w.heap.size + 1, 0, none⟩ = some bx ∧ w'.cell? ⟨w.heap.size + 1, 1, none⟩ = some by_ ∧ w'.cell? ⟨w.heap.size + 1, 2, none⟩ = some bz ∧ w'.cell? ⟨N4, 0, none⟩ = some vb1 ∧ w'.cell? ⟨N4, 1, none⟩ = some vs1 ∧ w'.cell? ⟨N4, 2, none⟩ = some vt1 ∧ w'.cell? ⟨N5, 0, none⟩ = some vb3 ∧ w'.cell? ⟨N5, 1, none⟩ = some vs3 ∧ w'.cell? ⟨N5, 2, none⟩ = some vt3)
          (first | (with_reducible exact ⟨cellB hBel ji0 x00, cellB hBel ji0 x01, cellB hBel ji0 x02, cellB hBel ji1 x10, cellB hBel ji1 x11, cellB hBel ji1 x12, cellB hBel jbx4 cu0, cellB hBel jbx4 cu1, cellB hBel jbx4 cu2, cellB hBel jbx5 cv0, cellB hBel jbx5 cv1, cellB hBel jbx5 cv2⟩) | go_keep)
          (first
            | (go_at_call 11; have _t := tk0; clear tk0; refine (awake3_c _).mono ?_; rintro e v0 ⟨rfl, g0⟩; replace o1 := o1.keep g0; replace o3 := o3.keep g0; replace hBel := hBel.trans (g0.mono hBel.size))
            | (go_at_call 12; have _t := tk1; clear tk1; refine (rCanon_v (K := 1048576) o1 za (by decide)).mono ?_; rintro e v1 ⟨rfl, g1⟩; replace o1 := o1.keep g1; replace o3 := o3.keep g1; replace hBel := hBel.trans (g1.mono hBel.size))
            | (go_at_call 13; have _t := tk2; clear tk2; refine (rREq_v (K := 1048576) o1 o3 za zb (by decide) HQ.out).mono ?_; rintro e v2 ⟨rfl, g2⟩; replace o1 := o1.keep g2; replace o3 := o3.keep g2; replace hBel := hBel.trans (g2.mono hBel.size))
            | (go_at_call 14; have _t := tk3; clear tk3; refine (rRCmp_v (K := 1048576) (ha.keep hBel) (hb.keep hBel) (by decide) HC.out).mono ?_; rintro e v3 ⟨rfl, g3⟩; replace o1 := o1.keep g3; replace o3 := o3.keep g3; replace hBel := hBel.trans (g3.mono hBel.size))
            | (go_at_call 10; have _t := tk4; clear tk4; refine (RNorm_v (K := 1048576) (o1.is za) (by decide) rfl).mono ?_; rintro e v4 ⟨b9, s9, t9, rfl, o9, g4⟩; replace o1 := o1.keep g4; replace o3 := o3.keep g4; replace hBel := hBel.trans (g4.mono hBel.size))
            | (go_at_call 13; have _t := tk5; clear tk5; refine (rREq_v (K := 1048576) o9 o1 za za (by decide) (decide_eq_true rfl)).mono ?_; rintro e v5 ⟨rfl, g5⟩; replace hBel := hBel.trans (g5.mono hBel.size)))
        rename_i hHeld
        clear hHeld
        go_wp2_with fail
        go_ret
        exact ⟨rfl, hb1.trans (hBel.mono hb1.size)⟩
      · have HC := Lib.hid hc
        clear hc hab
        have hBel : Below w'.heap.size w' w'.drew := (Below.refl _ _).drew
        replace o1 := o1.keep hBel
        replace o3 := o3.keep hBel
        go_region_held3 (fun w' => w'.cell? ⟨w.heap.size, 0, none⟩ = some ax ∧ w'.cell? ⟨w.heap.size, 1, none⟩ = some ay_ ∧ w'.cell? ⟨w.heap.size, 2, none⟩ = some az ∧ w'.cell? ⟨w.heap.size + 1, 0, none⟩ = some bx ∧ w'.cell? ⟨w.heap.size + 1, 1, none⟩ = some by_ ∧ w'.cell? ⟨w.heap.size + 1, 2, none⟩ = some bz ∧ w'.cell? ⟨N4, 0, none⟩ = some vb1 ∧ w'.cell? ⟨N4, 1, none⟩ = some vs1 ∧ w'.cell? ⟨N4, 2, none⟩ = some vt1 ∧ w'.cell? ⟨N5, 0, none⟩ = some vb3 ∧ w'.cell? ⟨N5, 1, none⟩ = some vs3 ∧ w'.cell? ⟨N5, 2, none⟩ = some vt3)
          (first | (with_reducible exact ⟨cellB hBel ji0 x00, cellB hBel ji0 x01, cellB hBel ji0 x02, cellB hBel ji1 x10, cellB hBel ji1 x11, cellB hBel ji1 x12, cellB hBel jbx4 cu0, cellB hBel jbx4 cu1, cellB hBel jbx4 cu2, cellB hBel jbx5 cv0, cellB hBel jbx5 cv1, cellB hBel jbx5 cv2⟩) | go_keep)
          (first
            | (go_at_call 11; have _t := tk0; clear tk0; refine (awake3_c _).mono ?_; rintro e v0 ⟨rfl, g0⟩; replace o1 := o1.keep g0; replace o3 := o3.keep g0; replace hBel := hBel.trans (g0.mono hBel.size))
            | (go_at_call 12; have _t := tk1; clear tk1; refine (rCanon_v (K := 1048576) o1 za (by decide)).mono ?_; rintro e v1 ⟨rfl, g1⟩; replace o1 := o1.keep g1; replace o3 := o3.keep g1; replace hBel := hBel.trans (g1.mono hBel.size))
            | (go_at_call 13; have _t := tk2; clear tk2; refine (rREq_v (K := 1048576) o1 o3 za zb (by decide) HQ.out).mono ?_; rintro e v2 ⟨rfl, g2⟩; replace o1 := o1.keep g2; replace o3 := o3.keep g2; replace hBel := hBel.trans (g2.mono hBel.size))
            | (go_at_call 14; have _t := tk3; clear tk3; refine (rRCmp_v (K := 1048576) (ha.keep hBel) (hb.keep hBel) (by decide) HC.out).mono ?_; rintro e v3 ⟨rfl, g3⟩; replace o1 := o1.keep g3; replace o3 := o3.keep g3; replace hBel := hBel.trans (g3.mono hBel.size))
            | (go_at_call 10; have _t := tk4; clear tk4; refine (RNorm_v (K := 1048576) (o1.is za) (by decide) rfl).mono ?_; rintro e v4 ⟨b9, s9, t9, rfl, o9, g4⟩; replace o1 := o1.keep g4; replace o3 := o3.keep g4; replace hBel := hBel.trans (g4.mono hBel.size))
            | (go_at_call 13; have _t := tk5; clear tk5; refine (rREq_v (K := 1048576) o9 o1 za za (by decide) (decide_eq_true rfl)).mono ?_; rintro e v5 ⟨rfl, g5⟩; replace hBel := hBel.trans (g5.mono hBel.size)))
        rename_i hHeld
        clear hHeld
        go_wp2_with fail
        go_ret
        exact ⟨rfl, hb1.trans (hBel.mono hb1.size)⟩
  · refine ⟨?_, ?_, ?_, ?_, ?_, ?_, ?_, ?_, trivial⟩
    · intro L a w' hI hL hd
      obtain ⟨x7, x8, x9, x10, x5, x6, vb1, vs1, vt1, vb3, vs3, vt3, N4, N5, rfl, hB, f0, f1, f2, f3, f4, f5, p4_5, c6_4, c6_1, c7_5, c7_3⟩ := hI
      have F0 := Lib.hid f0
      clear f0
      have F1 := Lib.hid f1
      clear f1
      have F2 := Lib.hid f2
      clear f2
      have F3 := Lib.hid f3
      clear f3
      have F4 := Lib.hid f4
      clear f4
      have F5 := Lib.hid f5
      clear f5
      have P4_5 := Lib.hid p4_5
      clear p4_5
      have C6_4 := Lib.hid c6_4
      clear c6_4
      have C6_1 := Lib.hid c6_1
      clear c6_1
      have C7_5 := Lib.hid c7_5
      clear c7_5
      have C7_3 := Lib.hid c7_3
      clear c7_3
      have HD := Lib.hid hd
      clear hd
      have HL := Lib.hid hL
      clear hL
      simp only [Act.put, List.setIfInBounds_toArray, List.set_cons_zero, List.set_cons_succ]
      obtain ⟨y0, y1, y2, y3, y4, y5⟩ := i0.keep hB
      refine wpOp_step rfl (fun kk hkk => ?_)
      go_simp
      refine hkk _ _ ⟨(.agg #[ax, ay_, az]), x8, x9, x10, x5, x6, vb1, vs1, vt1, vb3, vs3, vt3, N4, N5, ?_, hB, (fun _ => rfl), (fun h => ⟨(F1.out (upd_of h (by decide))).1, (F1.out (upd_of h (by decide))).2⟩), (fun h => F2.out (upd_of h (by decide))), (fun h => ⟨(F3.out (upd_of h (by decide))).1, (F3.out (upd_of h (by decide))).2⟩), (fun h => ⟨(F4.out (upd_of h (by decide))).1, (F4.out (upd_of h (by decide))).2.1, (F4.out (upd_of h (by decide))).2.2.1, fun h2 => ((F4.out (upd_of h (by decide))).2.2.2.1 (upd_of h2 (by decide))), fun h2 => ((F4.out (upd_of h (by decide))).2.2.2.2 (upd_of h2 (by decide)))⟩), (fun h => ⟨(F5.out (upd_of h (by decide))).1, (F5.out (upd_of h (by decide))).2.1, (F5.out (upd_of h (by decide))).2.2.1, fun h2 => ((F5.out (upd_of h (by decide))).2.2.2.1 (upd_of h2 (by decide))), fun h2 => ((F5.out (upd_of h (by decide))).2.2.2.2 (upd_of h2 (by decide)))⟩), (fun h h2 => P4_5.out (upd_of h (by decide)) (upd_of h2 (by decide))), (fun h => (upd_ne (by decide)).trans (C6_4.out (upd_of h (by decide)))), (fun h => (upd_ne (by decide)).trans (C6_1.out (upd_of h (by decide)))), (fun h => (upd_ne (by decide)).trans (C7_5.out (upd_of h (by decide)))), (fun h => (upd_ne (by decide)).trans (C7_3.out (upd_of h (by decide))))⟩
      first | with_reducible rfl | simp only [Act.put, List.setIfInBounds_toArray, List.set_cons_zero, List.set_cons_succ]
    · intro L a w' hI hL hd
      obtain ⟨x7, x8, x9, x10, x5, x6, vb1, vs1, vt1, vb3, vs3, vt3, N4, N5, rfl, hB, f0, f1, f2, f3, f4, f5, p4_5, c6_4, c6_1, c7_5, c7_3⟩ := hI
      obtain rfl := f0 (hd 0 (by decide))
      clear f0
      have F1 := Lib.hid f1
      clear f1
      have F2 := Lib.hid f2
      clear f2
      have F3 := Lib.hid f3
      clear f3
      have F4 := Lib.hid f4
      clear f4
      have F5 := Lib.hid f5
      clear f5
      have P4_5 := Lib.hid p4_5
      clear p4_5
      have C6_4 := Lib.hid c6_4
      clear c6_4
      have C6_1 := Lib.hid c6_1
      clear c6_1
      have C7_5 := Lib.hid c7_5
      clear c7_5
      have C7_3 := Lib.hid c7_3
      clear c7_3
      have HD := Lib.hid hd
      clear hd
      have HL := Lib.hid hL
      clear hL
      simp only [Act.put, List.setIfInBounds_toArray, List.set_cons_zero, List.set_cons_succ]
      refine wpOp_step rfl (fun kk hkk => ?_)
      go_wp2_with (first | (go_at_call 10; refine (RNorm_v (ha.keep hB) (by decide) rfl).mono ?_; rintro e w'' ⟨vb1, vs1, vt1, rfl, o1, g⟩))
      refine ⟨(.agg #[ax, ay_, az]), (.agg #[vb1, vs1, vt1]), x9, x10, x5, x6, _, _, _, vb3, vs3, vt3, N4, N5, ?_, hB.trans (g.mono hB.size), (fun _ => rfl), (fun _ => ⟨rfl, o1.mono hB.size⟩), (fun h => F2.out (upd_of h (by decide))), (fun h => ⟨(F3.out (upd_of h (by decide))).1, (F3.out (upd_of h (by decide))).2.keep g⟩), (fun h => ⟨(F4.out (upd_of h (by decide))).1, (F4.out (upd_of h (by decide))).2.1, Nat.lt_of_lt_of_le (F4.out (upd_of h (by decide))).2.2.1 g.size, fun h2 => ((F4.out (upd_of h (by decide))).2.2.2.1 (upd_of h2 (by decide))).keep g, fun h2 => absurd (C6_1.out (upd_of h2 (by decide))) (by rw [HL.out]; decide)⟩), (fun h => ⟨(F5.out (upd_of h (by decide))).1, (F5.out (upd_of h (by decide))).2.1, Nat.lt_of_lt_of_le (F5.out (upd_of h (by decide))).2.2.1 g.size, fun h2 => ((F5.out (upd_of h (by decide))).2.2.2.1 (upd_of h2 (by decide))).keep g, fun h2 => ((F5.out (upd_of h (by decide))).2.2.2.2 (upd_of h2 (by decide))).keep g⟩), (fun h h2 => P4_5.out (upd_of h (by decide)) (upd_of h2 (by decide))), (fun h => (upd_ne (by decide)).trans (C6_4.out (upd_of h (by decide)))), (fun _ => upd_eq), (fun h => (upd_ne (by decide)).trans (C7_5.out (upd_of h (by decide)))), (fun h => (upd_ne (by decide)).trans (C7_3.out (upd_of h (by decide))))⟩
      first | with_reducible rfl | simp only [Act.put, List.setIfInBounds_toArray, List.set_cons_zero, List.set_cons_succ]
    · intro L a w' hI hL hd
      obtain ⟨x7, x8, x9, x10, x5, x6, vb1, vs1, vt1, vb3, vs3, vt3, N4, N5, rfl, hB, f0, f1, f2, f3, f4, f5, p4_5, c6_4, c6_1, c7_5, c7_3⟩ := hI
      have F0 := Lib.hid f0
      clear f0
      have F1 := Lib.hid f1
      clear f1
      have F2 := Lib.hid f2
      clear f2
      have F3 := Lib.hid f3
      clear f3
      have F4 := Lib.hid f4
      clear f4
      have F5 := Lib.hid f5
      clear f5
      have P4_5 := Lib.hid p4_5
      clear p4_5
      have C6_4 := Lib.hid c6_4
      clear c6_4
      have C6_1 := Lib.hid c6_1
      clear c6_1
      have C7_5 := Lib.hid c7_5
      clear c7_5
      have C7_3 := Lib.hid c7_3
      clear c7_3
      have HD := Lib.hid hd
      clear hd
      have HL := Lib.hid hL
      clear hL
      simp only [Act.put, List.setIfInBounds_toArray, List.set_cons_zero, List.set_cons_succ]
      obtain ⟨y0, y1, y2, y3, y4, y5⟩ := i1.keep hB
      refine wpOp_step rfl (fun kk hkk => ?_)
      go_simp
      refine hkk _ _ ⟨x7, x8, (.agg #[bx, by_, bz]), x10, x5, x6, vb1, vs1, vt1, vb3, vs3, vt3, N4, N5, ?_, hB, (fun h => F0.out (upd_of h (by decide))), (fun h => ⟨(F1.out (upd_of h (by decide))).1, (F1.out (upd_of h (by decide))).2⟩), (fun _ => rfl), (fun h => ⟨(F3.out (upd_of h (by decide))).1, (F3.out (upd_of h (by decide))).2⟩), (fun h => ⟨(F4.out (upd_of h (by decide))).1, (F4.out (upd_of h (by decide))).2.1, (F4.out (upd_of h (by decide))).2.2.1, fun h2 => ((F4.out (upd_of h (by decide))).2.2.2.1 (upd_of h2 (by decide))), fun h2 => ((F4.out (upd_of h (by decide))).2.2.2.2 (upd_of h2 (by decide)))⟩), (fun h => ⟨(F5.out (upd_of h (by decide))).1, (F5.out (upd_of h (by decide))).2.1, (F5.out (upd_of h (by decide))).2.2.1, fun h2 => ((F5.out (upd_of h (by decide))).2.2.2.1 (upd_of h2 (by decide))), fun h2 => ((F5.out (upd_of h (by decide))).2.2.2.2 (upd_of h2 (by decide)))⟩), (fun h h2 => P4_5.out (upd_of h (by decide)) (upd_of h2 (by decide))), (fun h => (upd_ne (by decide)).trans (C6_4.out (upd_of h (by decide)))), (fun h => (upd_ne (by decide)).trans (C6_1.out (upd_of h (by decide)))), (fun h => (upd_ne (by decide)).trans (C7_5.out (upd_of h (by decide)))), (fun h => (upd_ne (by decide)).trans (C7_3.out (upd_of h (by decide))))⟩
      first | with_reducible rfl | simp only [Act.put, List.setIfInBounds_toArray, List.set_cons_zero, List.set_cons_succ]
    · intro L a w' hI hL hd
      obtain ⟨x7, x8, x9, x10, x5, x6, vb1, vs1, vt1, vb3, vs3, vt3, N4, N5, rfl, hB, f0, f1, f2, f3, f4, f5, p4_5, c6_4, c6_1, c7_5, c7_3⟩ := hI
      obtain rfl := f2 (hd 2 (by decide))
      obtain ⟨rfl, o1⟩ := f1 (hd 1 (by decide))
      have F0 := Lib.hid f0
      clear f0
      clear f1
      clear f2
      have F3 := Lib.hid f3
      clear f3
      have F4 := Lib.hid f4
      clear f4
      have F5 := Lib.hid f5
      clear f5
      have P4_5 := Lib.hid p4_5
      clear p4_5
      have C6_4 := Lib.hid c6_4
      clear c6_4
      have C6_1 := Lib.hid c6_1
      clear c6_1
      have C7_5 := Lib.hid c7_5
      clear c7_5
      have C7_3 := Lib.hid c7_3
      clear c7_3
      have HD := Lib.hid hd
      clear hd
      have HL := Lib.hid hL
      clear hL
      simp only [Act.put, List.setIfInBounds_toArray, List.set_cons_zero, List.set_cons_succ]
      refine wpOp_step rfl (fun kk hkk => ?_)
      go_wp2_with (first | (go_at_call 10; refine (RNorm_v (hb.keep hB) (by decide) rfl).mono ?_; rintro e w'' ⟨vb3, vs3, vt3, rfl, o3, g⟩))
      refine ⟨x7, (.agg #[vb1, vs1, vt1]), (.agg #[bx, by_, bz]), (.agg #[vb3, vs3, vt3]), x5, x6, vb1, vs1, vt1, _, _, _, N4, N5, ?_, hB.trans (g.mono hB.size), (fun h => F0.out (upd_of h (by decide))), (fun _ => ⟨rfl, o1.keep g⟩), (fun _ => rfl), (fun _ => ⟨rfl, o3.mono hB.size⟩), (fun h => ⟨(F4.out (upd_of h (by decide))).1, (F4.out (upd_of h (by decide))).2.1, Nat.lt_of_lt_of_le (F4.out (upd_of h (by decide))).2.2.1 g.size, fun h2 => ((F4.out (upd_of h (by decide))).2.2.2.1 (upd_of h2 (by decide))).keep g, fun h2 => ((F4.out (upd_of h (by decide))).2.2.2.2 (upd_of h2 (by decide))).keep g⟩), (fun h => ⟨(F5.out (upd_of h (by decide))).1, (F5.out (upd_of h (by decide))).2.1, Nat.lt_of_lt_of_le (F5.out (upd_of h (by decide))).2.2.1 g.size, fun h2 => ((F5.out (upd_of h (by decide))).2.2.2.1 (upd_of h2 (by decide))).keep g, fun h2 => absurd (C7_3.out (upd_of h2 (by decide))) (by rw [HL.out]; decide)⟩), (fun h h2 => P4_5.out (upd_of h (by decide)) (upd_of h2 (by decide))), (fun h => (upd_ne (by decide)).trans (C6_4.out (upd_of h (by decide)))), (fun h => (upd_ne (by decide)).trans (C6_1.out (upd_of h (by decide)))), (fun h => (upd_ne (by decide)).trans (C7_5.out (upd_of h (by decide)))), (fun _ => upd_eq)⟩
      first | with_reducible rfl | simp only [Act.put, List.setIfInBounds_toArray, List.set_cons_zero, List.set_cons_succ]
    · intro L a w' hI hL hd
      obtain ⟨x7, x8, x9, x10, x5, x6, vb1, vs1, vt1, vb3, vs3, vt3, N4, N5, rfl, hB, f0, f1, f2, f3, f4, f5, p4_5, c6_4, c6_1, c7_5, c7_3⟩ := hI
      have F0 := Lib.hid f0
      clear f0
      have F1 := Lib.hid f1
      clear f1
      have F2 := Lib.hid f2
      clear f2
      have F3 := Lib.hid f3
      clear f3
      have F4 := Lib.hid f4
      clear f4
      have F5 := Lib.hid f5
      clear f5
      have P4_5 := Lib.hid p4_5
      clear p4_5
      have C6_4 := Lib.hid c6_4
      clear c6_4
      have C6_1 := Lib.hid c6_1
      clear c6_1
      have C7_5 := Lib.hid c7_5
      clear c7_5
      have C7_3 := Lib.hid c7_3
      clear c7_3
      have HD := Lib.hid hd
      clear hd
      have HL := Lib.hid hL
      clear hL
      simp only [Act.put, List.setIfInBounds_toArray, List.set_cons_zero, List.set_cons_succ]
      refine wpOp_step rfl (fun kk hkk => ?_)
      go_simp
      refine hkk _ _ ⟨x7, x8, x9, x10, (.pointer (some ⟨w'.heap.size, 0, none⟩)), x6, vb1, vs1, vt1, vb3, vs3, vt3, w'.heap.size, N5, ?_, Below.al1 hB _, (fun h => F0.out (upd_of h (by decide))), (fun h => ⟨(F1.out (upd_of h (by decide))).1, (F1.out (upd_of h (by decide))).2.keep (bel1 _ _)⟩), (fun h => F2.out (upd_of h (by decide))), (fun h => ⟨(F3.out (upd_of h (by decide))).1, (F3.out (upd_of h (by decide))).2.keep (bel1 _ _)⟩), (fun _ => ⟨rfl, hB.size, by simp, fun _ => Bx3.new w' (.bool false) (.slice none 0 0) (.slice none 0 0), fun h2 => absurd (C6_4.out (upd_of h2 (by decide))) (by rw [HL.out]; decide)⟩), (fun h => ⟨(F5.out (upd_of h (by decide))).1, (F5.out (upd_of h (by decide))).2.1, Nat.lt_of_lt_of_le (F5.out (upd_of h (by decide))).2.2.1 (bel1 _ _).size, fun h2 => ((F5.out (upd_of h (by decide))).2.2.2.1 (upd_of h2 (by decide))).keep (bel1 _ _), fun h2 => ((F5.out (upd_of h (by decide))).2.2.2.2 (upd_of h2 (by decide))).keep (bel1 _ _)⟩), (fun _ h2 => by have hlt := (F5.out (upd_of h2 (by decide))).2.2.1; omega), (fun _ => upd_eq), (fun h => (upd_ne (by decide)).trans (C6_1.out (upd_of h (by decide)))), (fun h => (upd_ne (by decide)).trans (C7_5.out (upd_of h (by decide)))), (fun h => (upd_ne (by decide)).trans (C7_3.out (upd_of h (by decide))))⟩
      first | with_reducible rfl | simp only [Act.put, List.setIfInBounds_toArray, List.set_cons_zero, List.set_cons_succ]
    · intro L a w' hI hL hd
      obtain ⟨x7, x8, x9, x10, x5, x6, vb1, vs1, vt1, vb3, vs3, vt3, N4, N5, rfl, hB, f0, f1, f2, f3, f4, f5, p4_5, c6_4, c6_1, c7_5, c7_3⟩ := hI
      have F0 := Lib.hid f0
      clear f0
      have F1 := Lib.hid f1
      clear f1
      have F2 := Lib.hid f2
      clear f2
      have F3 := Lib.hid f3
      clear f3
      have F4 := Lib.hid f4
      clear f4
      have F5 := Lib.hid f5
      clear f5
      have P4_5 := Lib.hid p4_5
      clear p4_5
      have C6_4 := Lib.hid c6_4
      clear c6_4
      have C6_1 := Lib.hid c6_1
      clear c6_1
      have C7_5 := Lib.hid c7_5
      clear c7_5
      have C7_3 := Lib.hid c7_3
      clear c7_3
      have HD := Lib.hid hd
      clear hd
      have HL := Lib.hid hL
      clear hL
      simp only [Act.put, List.setIfInBounds_toArray, List.set_cons_zero, List.set_cons_succ]
      refine wpOp_step rfl (fun kk hkk => ?_)
      go_simp
      refine hkk _ _ ⟨x7, x8, x9, x10, x5, (.pointer (some ⟨w'.heap.size, 0, none⟩)), vb1, vs1, vt1, vb3, vs3, vt3, N4, w'.heap.size, ?_, Below.al1 hB _, (fun h => F0.out (upd_of h (by decide))), (fun h => ⟨(F1.out (upd_of h (by decide))).1, (F1.out (upd_of h (by decide))).2.keep (bel1 _ _)⟩), (fun h => F2.out (upd_of h (by decide))), (fun h => ⟨(F3.out (upd_of h (by decide))).1, (F3.out (upd_of h (by decide))).2.keep (bel1 _ _)⟩), (fun h => ⟨(F4.out (upd_of h (by decide))).1, (F4.out (upd_of h (by decide))).2.1, Nat.lt_of_lt_of_le (F4.out (upd_of h (by decide))).2.2.1 (bel1 _ _).size, fun h2 => ((F4.out (upd_of h (by decide))).2.2.2.1 (upd_of h2 (by decide))).keep (bel1 _ _), fun h2 => ((F4.out (upd_of h (by decide))).2.2.2.2 (upd_of h2 (by decide))).keep (bel1 _ _)⟩), (fun _ => ⟨rfl, hB.size, by simp, fun _ => Bx3.new w' (.bool false) (.slice none 0 0) (.slice none 0 0), fun h2 => absurd (C7_5.out (upd_of h2 (by decide))) (by rw [HL.out]; decide)⟩), (fun h2 _ => by have hlt := (F4.out (upd_of h2 (by decide))).2.2.1; omega), (fun h => (upd_ne (by decide)).trans (C6_4.out (upd_of h (by decide)))), (fun h => (upd_ne (by decide)).trans (C6_1.out (upd_of h (by decide)))), (fun _ => upd_eq), (fun h => (upd_ne (by decide)).trans (C7_3.out (upd_of h (by decide))))⟩
      first | with_reducible rfl | simp only [Act.put, List.setIfInBounds_toArray, List.set_cons_zero, List.set_cons_succ]
    · intro L a w' hI hL hd
      obtain ⟨x7, x8, x9, x10, x5, x6, vb1, vs1, vt1, vb3, vs3, vt3, N4, N5, rfl, hB, f0, f1, f2, f3, f4, f5, p4_5, c6_4, c6_1, c7_5, c7_3⟩ := hI
      obtain ⟨rfl, lo5, lt5, zb5, bx5⟩ := f5 (hd 5 (by decide))
      obtain ⟨rfl, lo4, lt4, zb4, bx4⟩ := f4 (hd 4 (by decide))
      obtain ⟨rfl, o3⟩ := f3 (hd 3 (by decide))
      obtain ⟨rfl, o1⟩ := f1 (hd 1 (by decide))
      obtain rfl := f0 (hd 0 (by decide))
      clear f0
      clear f1
      have F2 := Lib.hid f2
      clear f2
      clear f3
      clear f4
      clear f5
      have P4_5 := Lib.hid p4_5
      clear p4_5
      have C6_4 := Lib.hid c6_4
      clear c6_4
      have C6_1 := Lib.hid c6_1
      clear c6_1
      have C7_5 := Lib.hid c7_5
      clear c7_5
      have C7_3 := Lib.hid c7_3
      clear c7_3
      have HD := Lib.hid hd
      clear hd
      have HL := Lib.hid hL
      clear hL
      simp only [Act.put, List.setIfInBounds_toArray, List.set_cons_zero, List.set_cons_succ]
      refine wpOp_step rfl (fun kk hkk => ?_)
      have zb := zb4 HL.out
      obtain ⟨k0, k1, k2, k3, k4, k5⟩ := id zb
      obtain ⟨m1_0, m1_1, m1_2⟩ := o1.st
      obtain ⟨m3_0, m3_1, m3_2⟩ := o3.st
      go_simp
      refine hkk _ _ ⟨(.agg #[ax, ay_, az]), (.agg #[vb1, vs1, vt1]), x9, (.agg #[vb3, vs3, vt3]), (.pointer (some ⟨N4, 0, none⟩)), (.pointer (some ⟨N5, 0, none⟩)), vb1, vs1, vt1, vb3, vs3, vt3, N4, N5, ?_, below_put3 hB lo4 _ _ _, (fun _ => rfl), (fun _ => ⟨rfl, o1.put3 zb nol0 _ _ _⟩), (fun h => F2.out (upd_of h (by decide))), (fun _ => ⟨rfl, o3.put3 zb nol0 _ _ _⟩), (fun _ => ⟨rfl, lo4, (by simpa using lt4), fun h2 => absurd h2 (by rw [upd_eq]; decide), fun _ => zb.put _ _ _⟩), (fun h => ⟨rfl, lo5, (by simpa using lt5), fun h2 => (zb5 (upd_of h2 (by decide))).far3 (by have hne := P4_5.out (HD.out 4 (by decide)) (upd_of h (by decide)); exact fun e => hne e.symm) _ _ _, fun h2 => (bx5 (upd_of h2 (by decide))).far3 (by have hne := P4_5.out (HD.out 4 (by decide)) (upd_of h (by decide)); exact fun e => hne e.symm) _ _ _⟩), (fun h h2 => P4_5.out (upd_of h (by decide)) (upd_of h2 (by decide))), (fun _ => (upd_ne (by decide)).trans (HD.out 4 (by decide))), (fun _ => (upd_ne (by decide)).trans (HD.out 1 (by decide))), (fun h => (upd_ne (by decide)).trans (C7_5.out (upd_of h (by decide)))), (fun h => (upd_ne (by decide)).trans (C7_3.out (upd_of h (by decide))))⟩
      first | with_reducible rfl | simp only [Act.put, List.setIfInBounds_toArray, List.set_cons_zero, List.set_cons_succ]
    · intro L a w' hI hL hd
      obtain ⟨x7, x8, x9, x10, x5, x6, vb1, vs1, vt1, vb3, vs3, vt3, N4, N5, rfl, hB, f0, f1, f2, f3, f4, f5, p4_5, c6_4, c6_1, c7_5, c7_3⟩ := hI
      obtain ⟨rfl, lo5, lt5, zb5, bx5⟩ := f5 (hd 5 (by decide))
      obtain ⟨rfl, lo4, lt4, zb4, bx4⟩ := f4 (hd 4 (by decide))
      obtain ⟨rfl, o3⟩ := f3 (hd 3 (by decide))
      obtain rfl := f2 (hd 2 (by decide))
      obtain ⟨rfl, o1⟩ := f1 (hd 1 (by decide))
      obtain rfl := f0 (hd 0 (by decide))
      clear f0
      clear f1
      clear f2
      clear f3
      clear f4
      clear f5
      have P4_5 := Lib.hid p4_5
      clear p4_5
      have C6_4 := Lib.hid c6_4
      clear c6_4
      have C6_1 := Lib.hid c6_1
      clear c6_1
      have C7_5 := Lib.hid c7_5
      clear c7_5
      have C7_3 := Lib.hid c7_3
      clear c7_3
      have HD := Lib.hid hd
      clear hd
      have HL := Lib.hid hL
      clear hL
      simp only [Act.put, List.setIfInBounds_toArray, List.set_cons_zero, List.set_cons_succ]
      refine wpOp_step rfl (fun kk hkk => ?_)
      have zb := zb5 HL.out
      obtain ⟨k0, k1, k2, k3, k4, k5⟩ := id zb
      obtain ⟨m1_0, m1_1, m1_2⟩ := o1.st
      obtain ⟨m3_0, m3_1, m3_2⟩ := o3.st
      go_simp
      refine hkk _ _ ⟨(.agg #[ax, ay_, az]), (.agg #[vb1, vs1, vt1]), (.agg #[bx, by_, bz]), (.agg #[vb3, vs3, vt3]), (.pointer (some ⟨N4, 0, none⟩)), (.pointer (some ⟨N5, 0, none⟩)), vb1, vs1, vt1, vb3, vs3, vt3, N4, N5, ?_, below_put3 hB lo5 _ _ _, (fun _ => rfl), (fun _ => ⟨rfl, o1.put3 zb nol0 _ _ _⟩), (fun _ => rfl), (fun _ => ⟨rfl, o3.put3 zb nol0 _ _ _⟩), (fun h => ⟨rfl, lo4, (by simpa using lt4), fun h2 => (zb4 (upd_of h2 (by decide))).far3 (by have hne := P4_5.out (upd_of h (by decide)) (HD.out 5 (by decide)); exact hne) _ _ _, fun h2 => (bx4 (upd_of h2 (by decide))).far3 (by have hne := P4_5.out (upd_of h (by decide)) (HD.out 5 (by decide)); exact hne) _ _ _⟩), (fun _ => ⟨rfl, lo5, (by simpa using lt5), fun h2 => absurd h2 (by rw [upd_eq]; decide), fun _ => zb.put _ _ _⟩), (fun h h2 => P4_5.out (upd_of h (by decide)) (upd_of h2 (by decide))), (fun h => (upd_ne (by decide)).trans (C6_4.out (upd_of h (by decide)))), (fun h => (upd_ne (by decide)).trans (C6_1.out (upd_of h (by decide)))), (fun _ => (upd_ne (by decide)).trans (HD.out 5 (by decide))), (fun _ => (upd_ne (by decide)).trans (HD.out 3 (by decide)))⟩
      first | with_reducible rfl | simp only [Act.put, List.setIfInBounds_toArray, List.set_cons_zero, List.set_cons_succ]
theorem rcanonical_walk (p0 : Bool) (A0 : Option Addr) (xs0 : List Nat) (c0 : Nat) (B0 : Option Addr) (ys0 : List Nat) (d0 : Nat) (p1 : Bool) (A1 : Option Addr) (xs1 : List Nat) (c1 : Nat) (B1 : Option Addr) (ys1 : List Nat) (d1 : Nat) (w : World) (h0 : Lim w A0 c0 xs0) (g0 : Lim w B0 d0 ys0) (h1 : Lim w A1 c1 xs1) (g1 : Lim w B1 d1 ys1) (k0 : xs0.length ≤ 1048576) (l0 : ys0.length ≤ 1048576) (k1 : xs1.length ≤ 1048576) (l1 : ys1.length ≤ 1048576) :
    Calls Try.prog 3 #[.agg #[.bool p0, .slice A0 xs0.length c0, .slice B0 ys0.length d0], .agg #[.bool p1, .slice A1 xs1.length c1, .slice B1 ys1.length d1]] w (RetB w true) :=
  rcanonical_v (raw_rat p0 h0 g0 k0 l0) (raw_rat p1 h1 g1 k1 l1)
end Go.Proofs.Ytdcofnjekdkifaa
