/- The walk of the statement RationalKeeps: it returns true. -/
import Derived.Test.YtaeidephegnkdaaKW
import Derived.Test.YtaeidephegnkdaaKS
import Derived.Test.YtaeidephegnkdaaKD
namespace Go.Proofs.Ytaeidephegnkdaa
open Go.RowKit Gm

set_option maxRecDepth 100000 in
set_option maxHeartbeats 16000000 in
theorem rkeeps_walk (p0 : Bool) (A0 : Option Addr) (xs0 : List Nat) (c0 : Nat) (B0 : Option Addr) (ys0 : List Nat) (d0 : Nat) (p1 : Bool) (A1 : Option Addr) (xs1 : List Nat) (c1 : Nat) (B1 : Option Addr) (ys1 : List Nat) (d1 : Nat) (w : World) (h0 : Lim w A0 c0 xs0) (g0 : Lim w B0 d0 ys0) (h1 : Lim w A1 c1 xs1) (g1 : Lim w B1 d1 ys1) (k0 : xs0.length ≤ 1048576) (l0 : ys0.length ≤ 1048576) (k1 : xs1.length ≤ 1048576) (l1 : ys1.length ≤ 1048576) :
    Calls Try.prog 5 #[.agg #[.bool p0, .slice A0 xs0.length c0, .slice B0 ys0.length d0], .agg #[.bool p1, .slice A1 xs1.length c1, .slice B1 ys1.length d1]] w (RetB w true) := by
  have tk0 : True := trivial
  have tk1 : True := trivial
  obtain ⟨W, hW, hbW, i0, i1⟩ : ∃ W, (w.alloc (.cells #[.bool p0, .slice A0 xs0.length c0, .slice B0 ys0.length d0] 26)).alloc (.cells #[.bool p1, .slice A1 xs1.length c1, .slice B1 ys1.length d1] 26) = W ∧ Below w.heap.size w W ∧ Bx3 W w.heap.size (.bool p0) (.slice A0 xs0.length c0) (.slice B0 ys0.length d0) ∧ Bx3 W (w.heap.size + 1) (.bool p1) (.slice A1 xs1.length c1) (.slice B1 ys1.length d1) := ⟨_, rfl, ((Below.refl _ _).alloc (by simp <;> omega) _).alloc (by simp <;> omega) _, by refine ⟨?_, ?_, ?_, ?_, ?_, ?_⟩ <;> go_simp, by refine ⟨?_, ?_, ?_, ?_, ?_, ?_⟩ <;> go_simp⟩
  have HW := Lib.hid hW
  clear hW
  go_enter Try.func5, Try.ntmps5
  go_upto_region 1 with fail
  rw [HW.out]
  clear HW
  have j0 := i0.lt
  have j1 := i1.lt
  obtain ⟨x00, x01, x02, _, _, _⟩ := id i0
  replace h0 := h0.below hbW
  replace g0 := g0.below hbW
  replace h1 := h1.below hbW
  replace g1 := g1.below hbW
  have hBel : Below W.heap.size W W.drew := (Below.refl _ _).drew
  go_cut [5] (fun s5 wx => ∃ g5 gx gy, s5 = .pointer (some ⟨g5, 0, none⟩) ∧ Bx3 wx g5 (.bool p0) (.slice (some ⟨gx, 0, none⟩) xs0.length (xs0.length + 3)) (.slice (some ⟨gy, 0, none⟩) ys0.length (ys0.length + 3)) ∧ Spared wx gx xs0 ∧ Spared wx gy ys0 ∧ Below W.heap.size W wx)
  case first =>
    go_region_held3 (fun w' => w'.cell? ⟨w.heap.size, 0, none⟩ = some (.bool p0) ∧ w'.cell? ⟨w.heap.size, 1, none⟩ = some (.slice A0 xs0.length c0) ∧ w'.cell? ⟨w.heap.size, 2, none⟩ = some (.slice B0 ys0.length d0))
      (first | (with_reducible exact ⟨cellB hBel j0 x00, cellB hBel j0 x01, cellB hBel j0 x02⟩) | (refine ⟨cellB (W := W) ?_ j0 x00, cellB (W := W) ?_ j0 x01, cellB (W := W) ?_ j0 x02⟩ <;> (first | with_reducible exact hBel | with_reducible exact Below.al1 hBel _ | with_reducible exact (Below.al1 (Below.refl _ _) _).drew | with_reducible exact below_put3 (Below.al1 hBel _) (by omega) _ _ _ | with_reducible exact below_put3 hBel (by omega) _ _ _ | with_reducible exact Below.al1 (below_put3 hBel (by omega) _ _ _) _)))
      (first
        | (go_at_call 17; have _t := tk0; clear tk0; refine (Spare_c A0 xs0 c0 _ ?_ (by omega)).mono ?_; (with_reducible refine h0.below ?_; (first | with_reducible exact hBel | with_reducible exact Below.al1 hBel _ | with_reducible exact (Below.al1 (Below.refl _ _) _).drew | with_reducible exact below_put3 (Below.al1 hBel _) (by omega) _ _ _ | with_reducible exact below_put3 hBel (by omega) _ _ _ | with_reducible exact Below.al1 (below_put3 hBel (by omega) _ _ _) _)); rintro e w1 ⟨gx, rfl, _, sx, b1⟩; have hBel' : Below W.heap.size W w1 := bel_call (by (first | with_reducible exact hBel | with_reducible exact Below.al1 hBel _ | with_reducible exact (Below.al1 (Below.refl _ _) _).drew | with_reducible exact below_put3 (Below.al1 hBel _) (by omega) _ _ _ | with_reducible exact below_put3 hBel (by omega) _ _ _ | with_reducible exact Below.al1 (below_put3 hBel (by omega) _ _ _) _)) b1; have z1 := b1.size; (try simp at z1); have q1 := hBel'.size; (try (have s1 : Bx3 w1 W.heap.size (.bool false) (.slice none 0 0) (.slice none 0 0) := (Bx3.new W.drew _ _ _).keep b1; obtain ⟨s1a, s1b, s1c, s1d, s1e, s1f⟩ := id s1; have y1 := s1.lt)); clear hBel; have hBel := hBel'; clear hBel')
        | (go_at_call 17; have _t := tk1; clear tk1; refine (Spare_c B0 ys0 d0 _ ?_ (by omega)).mono ?_; (with_reducible refine g0.below ?_; (first | with_reducible exact hBel | with_reducible exact Below.al1 hBel _ | with_reducible exact (Below.al1 (Below.refl _ _) _).drew | with_reducible exact below_put3 (Below.al1 hBel _) (by omega) _ _ _ | with_reducible exact below_put3 hBel (by omega) _ _ _ | with_reducible exact Below.al1 (below_put3 hBel (by omega) _ _ _) _)); rintro e w2 ⟨gy, rfl, _, sy, b2⟩; have hBel' : Below W.heap.size W w2 := bel_call (by (first | with_reducible exact hBel | with_reducible exact Below.al1 hBel _ | with_reducible exact (Below.al1 (Below.refl _ _) _).drew | with_reducible exact below_put3 (Below.al1 hBel _) (by omega) _ _ _ | with_reducible exact below_put3 hBel (by omega) _ _ _ | with_reducible exact Below.al1 (below_put3 hBel (by omega) _ _ _) _)) b2; have sx' : Spared w2 gx xs0 := (by first | with_reducible exact sx.keep b2 | with_reducible exact (sx.keep (bel1 _ _)).keep b2 | with_reducible exact ((sx.keep (bel1 _ _)).keep (bel1 _ _)).keep b2); have z2 := b2.size; (try simp at z2); have q2 := hBel'.size; (try (have v1 : Bx3 w2 W.heap.size (.bool false) (.slice none 0 0) (.slice none 0 0) := s1.keep b2; obtain ⟨v1a, v1b, v1c, v1d, v1e, v1f⟩ := id v1; have y3 := v1.lt)); (try (have v3 : Bx3 w2 w1.heap.size (.bool false) (.slice none 0 0) (.slice none 0 0) := (Bx3.new w1 _ _ _).keep b2; obtain ⟨v3a, v3b, v3c, v3d, v3e, v3f⟩ := id v3; have y4 := v3.lt)); clear hBel; have hBel := hBel'; clear hBel'))
    all_goals (go_wp2_with fail; go_meet; refine ⟨_, gx, gy, rfl, ?_, ?_, ?_, ?_⟩)
    all_goals (first | (with_reducible refine Bx3.mk ?_ ?_ ?_ ?_ ?_ ?_ <;> (go_simp; done)) | (first | with_reducible exact hBel | with_reducible exact Below.al1 hBel _ | with_reducible exact (Below.al1 (Below.refl _ _) _).drew | with_reducible exact below_put3 (Below.al1 hBel _) (by omega) _ _ _ | with_reducible exact below_put3 hBel (by omega) _ _ _ | with_reducible exact Below.al1 (below_put3 hBel (by omega) _ _ _) _) | ((repeat (first | with_reducible refine Spared.keep ?_ (bel1 _ _) | (with_reducible refine Spared.store_s ?_ ?_; rotate_left; focus (go_simp; done)) | (with_reducible refine Spared.store_b ?_ ?_; rotate_left; focus (go_simp; done)))); first | with_reducible exact sx' | with_reducible exact sy))
  case rest =>
    obtain ⟨g5, gx, gy, rfl, i5, sx, sy, hB⟩ := hcut
    obtain ⟨U, hU⟩ : ∃ U, U = wc := ⟨_, rfl⟩
    subst hU
    clear hBel x00 x01 x02
    have hend : Below w.heap.size w U := hbW.trans (hB.mono hbW.size)
    replace i0 := i0.keep hB
    replace i1 := i1.keep hB
    replace h0 := h0.below hB
    replace g0 := g0.below hB
    have ly : IsRat U (.bool p1) (.slice A1 xs1.length c1) (.slice B1 ys1.length d1) (rv p1 xs1 ys1) 1048576 := ⟨p1, A1, xs1, c1, B1, ys1, d1, rfl, rfl, rfl, h1.below hB, g1.below hB, k1, l1, by omega, rfl⟩
    have lx : IsRat U (.bool p0) (.slice (some ⟨gx, 0, none⟩) xs0.length (xs0.length + 3)) (.slice (some ⟨gy, 0, none⟩) ys0.length (ys0.length + 3)) (rv p0 xs0 ys0) 1048576 := ⟨p0, _, xs0, _, _, ys0, _, rfl, rfl, rfl, sx.lim (by omega), sy.lim (by omega), k0, l0, by omega, rfl⟩
    clear hB hbW j0 j1 h1 g1
    obtain ⟨X1, eX1⟩ : ∃ v, Value.slice (some ⟨gx, 0, none⟩) xs0.length (xs0.length + 3) = v := ⟨_, rfl⟩
    obtain ⟨X2, eX2⟩ : ∃ v, Value.slice (some ⟨gy, 0, none⟩) ys0.length (ys0.length + 3) = v := ⟨_, rfl⟩
    obtain ⟨Y1, eY1⟩ : ∃ v, Value.slice A1 xs1.length c1 = v := ⟨_, rfl⟩
    obtain ⟨Y2, eY2⟩ : ∃ v, Value.slice B1 ys1.length d1 = v := ⟨_, rfl⟩
    rw [eX1, eX2] at i5 lx
    rw [eY1, eY2] at i1 ly
    have EX1 := Lib.hid eX1
    have EX2 := Lib.hid eX2
    clear eX1 eX2 eY1 eY2 k1 l1
    obtain ⟨_, xst1, xst2⟩ := lx.st
    obtain ⟨_, yst1, yst2⟩ := ly.st
    obtain ⟨_, xcl1, xcl2⟩ := lx.cl
    obtain ⟨_, ycl1, ycl2⟩ := ly.cl
    have x50 := i5.c0
    have x51 := i5.c1
    have x52 := i5.c2
    have x10 := i1.c0
    have x11 := i1.c1
    have x12 := i1.c2
    go_wp2_with fail
    refine (RDiv_w lx ly (Nat.le_refl _)).mono ?_
    rintro e w1 ⟨bq, sq, tq, oq, rfl, rq, a1⟩
    clear x50 x51 x52 x10 x11 x12
    obtain ⟨W2, hW2⟩ : ∃ W2, w1.alloc (.cells #[bq, sq, tq] 26) = W2 := ⟨_, rfl⟩
    have i6 : Bx3 W2 w1.heap.size bq sq tq := by rw [← hW2]; exact Bx3.new _ _ _ _
    have a2 : Below w1.heap.size w1 W2 := by rw [← hW2]; exact bel1 _ _
    have c2 : Below U.heap.size U W2 := a1.trans (a2.mono a1.size)
    replace rq := rq.below a2
    obtain ⟨st0, st1, st2⟩ := rq.st
    have i5' := i5.keep c2
    have lx' := lx.keep c2
    obtain ⟨x50, x51, x52, _, _, _⟩ := id i5'
    obtain ⟨N6, eN6⟩ : ∃ N, w1.heap.size = N := ⟨_, rfl⟩
    clear a1 a2
    go_wp2_with fail
    try rw [hW2]
    rw [eN6] at i6
    try rw [eN6]
    clear hW2 eN6 st0 st1 st2
    refine (RInv_w lx' (Nat.le_refl _)).mono ?_
    rintro e w3 ⟨bi, si, ti, oi, rfl, ri, a3⟩
    obtain ⟨W4, hW4⟩ : ∃ W4, w3.alloc (.cells #[bi, si, ti] 26) = W4 := ⟨_, rfl⟩
    have i8 : Bx3 W4 w3.heap.size bi si ti := by rw [← hW4]; exact Bx3.new _ _ _ _
    have a4 : Below w3.heap.size w3 W4 := by rw [← hW4]; exact bel1 _ _
    have a34 := a3.trans (a4.mono a3.size)
    have c4 : Below U.heap.size U W4 := c2.trans (a34.mono c2.size)
    replace rq := rq.below a34
    replace ri := (ri.below a4).mono c2.size
    replace i6 := i6.keep a34
    obtain ⟨st0, st1, st2⟩ := ri.st
    clear x50 x51 x52 i5' lx'
    have i5' := i5.keep c4
    have i1' := i1.keep c4
    have lx' := lx.keep c4
    have ly' := ly.keep c4
    obtain ⟨x50, x51, x52, _, _, _⟩ := id i5'
    obtain ⟨x10, x11, x12, _, _, _⟩ := id i1'
    obtain ⟨N8, eN8⟩ : ∃ N, w3.heap.size = N := ⟨_, rfl⟩
    clear a3 a4 a34
    obtain ⟨V1, hV1⟩ : ∃ V, W4.alloc (.cells #[.bool p0, X1, X2] 26) = V := ⟨_, rfl⟩
    obtain ⟨V2, hV2⟩ : ∃ V, V1.alloc (.cells #[.bool p1, Y1, Y2] 26) = V := ⟨_, rfl⟩
    have v1 : Bx3 V1 W4.heap.size (.bool p0) X1 X2 := by rw [← hV1]; exact Bx3.new _ _ _ _
    have v2 : Bx3 V2 V1.heap.size (.bool p1) Y1 Y2 := by rw [← hV2]; exact Bx3.new _ _ _ _
    have bV1 : Below W4.heap.size W4 V1 := by rw [← hV1]; exact bel1 _ _
    have bV2 : Below V1.heap.size V1 V2 := by rw [← hV2]; exact bel1 _ _
    have bV := bV1.trans (bV2.mono bV1.size)
    replace v1 := v1.keep bV2
    have xx10 := (i1'.keep bV1).c0
    have xx11 := (i1'.keep bV1).c1
    have xx12 := (i1'.keep bV1).c2
    clear bV1 bV2
    go_wp2_with fail
    try rw [hW4]
    try rw [hV1]
    try rw [hV2]
    rw [eN8] at i8
    try rw [eN8]
    clear hW4 hV1 hV2 eN8 st0 st1 st2
    refine (RDot1 (lx'.keep bV) (ly'.keep bV) v1 v2 (by omega) rfl rfl).mono ?_
    rintro e w9 ⟨bd, sd, td, rfl, od, a9⟩
    obtain ⟨W5, hW5⟩ : ∃ W5, w9.alloc (.cells #[bd, sd, td] 26) = W5 := ⟨_, rfl⟩
    have iX : Bx3 W5 w9.heap.size bd sd td := by rw [← hW5]; exact Bx3.new _ _ _ _
    have a10 : Below w9.heap.size w9 W5 := by rw [← hW5]; exact bel1 _ _
    have b9 := bV.trans (a9.mono bV.size)
    have b95 := b9.trans (a10.mono b9.size)
    have c5 : Below U.heap.size U W5 := c4.trans (b95.mono c4.size)
    replace rq := rq.below b95
    replace ri := ri.below b95
    have rd := (od.wr.below a10).mono (lo' := U.heap.size) (Nat.le_trans c4.size bV.size)
    replace i6 := i6.keep b95
    replace i8 := i8.keep b95
    obtain ⟨st0, st1, st2⟩ := rd.st
    clear x50 x51 x52 i5' lx' ly' x10 x11 x12 i1' xx10 xx11 xx12 v1 v2
    have i5' := i5
    have i1' := i1
    replace i5 := i5.keep c5
    replace i1 := i1.keep c5
    have lxU := lx
    replace lx := lx.keep c5
    replace ly := ly.keep c5
    clear od a9 a10 b9 b95 bV c2 c4
    go_upto_region 5 with fail
    try rw [hW5]
    obtain ⟨NX, eNX⟩ : ∃ N, w9.heap.size = N := ⟨_, rfl⟩
    rw [eNX] at iX
    try rw [eNX]
    clear hW5 eNX st0 st1 st2
    have m5 := i5.lt
    have m1 := i1.lt
    have m6 := i6.lt
    have m8 := i8.lt
    have mX := iX.lt
    have lo5 := c5.size
    obtain ⟨qst0, qst1, qst2⟩ := rq.st
    obtain ⟨ist0, ist1, ist2⟩ := ri.st
    obtain ⟨dst0, dst1, dst2⟩ := rd.st
    obtain ⟨qcl0, qcl1, qcl2⟩ := rq.cl
    obtain ⟨icl0, icl1, icl2⟩ := ri.cl
    obtain ⟨dcl0, dcl1, dcl2⟩ := rd.cl
    have hA0 : Res W5 U.heap.size W5 [] := ⟨Below.refl _ _, fun e he => by simp at he⟩
    have hA : Res W5 U.heap.size W5.drew [] := ⟨(Below.refl _ _).drew, fun e he => by simp at he⟩
    go_cut [72, 73, 74] (fun s72 s73 s74 wx => ∃ g, s72 = .slice (some ⟨g, 0, none⟩) 11 11 ∧ s73 = .int .i64 11 ∧ s74 = .int .i64 0 ∧ OutsR U.heap.size g 11 wx 0 ∧ U.heap.size ≤ g ∧ g < wx.heap.size ∧ Below U.heap.size U wx)
    case first =>
      go_region_held3 (fun w' => w'.cell? ⟨g5, 0, none⟩ = some (.bool p0) ∧ w'.cell? ⟨g5, 1, none⟩ = some X1 ∧ w'.cell? ⟨g5, 2, none⟩ = some X2 ∧ w'.cell? ⟨w.heap.size + 1, 0, none⟩ = some (.bool p1) ∧ w'.cell? ⟨w.heap.size + 1, 1, none⟩ = some Y1 ∧ w'.cell? ⟨w.heap.size + 1, 2, none⟩ = some Y2 ∧ w'.cell? ⟨N6, 0, none⟩ = some bq ∧ w'.cell? ⟨N6, 1, none⟩ = some sq ∧ w'.cell? ⟨N6, 2, none⟩ = some tq ∧ w'.cell? ⟨N8, 0, none⟩ = some bi ∧ w'.cell? ⟨N8, 1, none⟩ = some si ∧ w'.cell? ⟨N8, 2, none⟩ = some ti ∧ w'.cell? ⟨NX, 0, none⟩ = some bd ∧ w'.cell? ⟨NX, 1, none⟩ = some sd ∧ w'.cell? ⟨NX, 2, none⟩ = some td)
        (first | (with_reducible exact ⟨cellB hA.bel m5 i5.c0, cellB hA.bel m5 i5.c1, cellB hA.bel m5 i5.c2, cellB hA.bel m1 i1.c0, cellB hA.bel m1 i1.c1, cellB hA.bel m1 i1.c2, cellB hA.bel m6 i6.c0, cellB hA.bel m6 i6.c1, cellB hA.bel m6 i6.c2, cellB hA.bel m8 i8.c0, cellB hA.bel m8 i8.c1, cellB hA.bel m8 i8.c2, cellB hA.bel mX iX.c0, cellB hA.bel mX iX.c1, cellB hA.bel mX iX.c2⟩) | (with_reducible exact ⟨cellB (hA.alloc _).bel m5 i5.c0, cellB (hA.alloc _).bel m5 i5.c1, cellB (hA.alloc _).bel m5 i5.c2, cellB (hA.alloc _).bel m1 i1.c0, cellB (hA.alloc _).bel m1 i1.c1, cellB (hA.alloc _).bel m1 i1.c2, cellB (hA.alloc _).bel m6 i6.c0, cellB (hA.alloc _).bel m6 i6.c1, cellB (hA.alloc _).bel m6 i6.c2, cellB (hA.alloc _).bel m8 i8.c0, cellB (hA.alloc _).bel m8 i8.c1, cellB (hA.alloc _).bel m8 i8.c2, cellB (hA.alloc _).bel mX iX.c0, cellB (hA.alloc _).bel mX iX.c1, cellB (hA.alloc _).bel mX iX.c2⟩) | (with_reducible exact ⟨cellB (hA0.alloc _).drew.bel m5 i5.c0, cellB (hA0.alloc _).drew.bel m5 i5.c1, cellB (hA0.alloc _).drew.bel m5 i5.c2, cellB (hA0.alloc _).drew.bel m1 i1.c0, cellB (hA0.alloc _).drew.bel m1 i1.c1, cellB (hA0.alloc _).drew.bel m1 i1.c2, cellB (hA0.alloc _).drew.bel m6 i6.c0, cellB (hA0.alloc _).drew.bel m6 i6.c1, cellB (hA0.alloc _).drew.bel m6 i6.c2, cellB (hA0.alloc _).drew.bel m8 i8.c0, cellB (hA0.alloc _).drew.bel m8 i8.c1, cellB (hA0.alloc _).drew.bel m8 i8.c2, cellB (hA0.alloc _).drew.bel mX iX.c0, cellB (hA0.alloc _).drew.bel mX iX.c1, cellB (hA0.alloc _).drew.bel mX iX.c2⟩))
        (first
        | (go_at_call 21; refine (RNorm_w (by first | with_reducible exact lx.keep hA.bel | with_reducible exact lx.keep (hA.alloc _).bel | with_reducible exact lx.keep (hA0.alloc _).drew.bel) (Nat.le_refl _)).mono ?_; rintro e u0 ⟨b0, s0, t0, rfl, o0, z0⟩; have hA' : Res W5 U.heap.size u0 [(b0, s0, t0)] := (by first | exact hA.call lo5 o0 z0 | exact (hA.alloc _).call lo5 o0 z0 | exact (hA0.alloc _).drew.call lo5 o0 z0); (first | (have hr' := hr.keep z0; clear hr) | (have hr' := (Bx3.new _ _ _ _).keep z0) | (have hr' := ((Bx3.new W5 (.bool p0) X1 X2).keep (Below.refl _ _).drew).keep z0) | skip); (try (have hr := hr'; clear hr')); clear hA o0 z0; have hA := hA'; clear hA')
        | (go_at_call 22; refine (RNeg_w (by first | with_reducible exact lx.keep hA.bel | with_reducible exact lx.keep (hA.alloc _).bel | with_reducible exact lx.keep (hA0.alloc _).drew.bel) (Nat.le_refl _)).mono ?_; rintro e u1 ⟨b1, s1, t1, rfl, o1, z1⟩; have hA' : Res W5 U.heap.size u1 [(b0, s0, t0), (b1, s1, t1)] := (by first | exact hA.call lo5 o1 z1 | exact (hA.alloc _).call lo5 o1 z1 | exact (hA0.alloc _).drew.call lo5 o1 z1); (first | (have hr' := hr.keep z1; clear hr) | (have hr' := (Bx3.new _ _ _ _).keep z1) | (have hr' := ((Bx3.new W5 (.bool p0) X1 X2).keep (Below.refl _ _).drew).keep z1) | skip); (try (have hr := hr'; clear hr')); clear hA o1 z1; have hA := hA'; clear hA')
        | (go_at_call 23; refine (RAdd_w (by first | with_reducible exact lx.keep hA.bel | with_reducible exact lx.keep (hA.alloc _).bel | with_reducible exact lx.keep (hA0.alloc _).drew.bel) (by first | with_reducible exact ly.keep hA.bel | with_reducible exact ly.keep (hA.alloc _).bel | with_reducible exact ly.keep (hA0.alloc _).drew.bel) (Nat.le_refl _)).mono ?_; rintro e u2 ⟨b2, s2, t2, rfl, o2, z2⟩; have hA' : Res W5 U.heap.size u2 [(b0, s0, t0), (b1, s1, t1), (b2, s2, t2)] := (by first | exact hA.call lo5 o2 z2 | exact (hA.alloc _).call lo5 o2 z2 | exact (hA0.alloc _).drew.call lo5 o2 z2); (first | (have hr' := hr.keep z2; clear hr) | (have hr' := (Bx3.new _ _ _ _).keep z2) | (have hr' := ((Bx3.new W5 (.bool p0) X1 X2).keep (Below.refl _ _).drew).keep z2) | skip); (try (have hr := hr'; clear hr')); clear hA o2 z2; have hA := hA'; clear hA')
        | (go_at_call 24; refine (RSub_w (by first | with_reducible exact lx.keep hA.bel | with_reducible exact lx.keep (hA.alloc _).bel | with_reducible exact lx.keep (hA0.alloc _).drew.bel) (by first | with_reducible exact ly.keep hA.bel | with_reducible exact ly.keep (hA.alloc _).bel | with_reducible exact ly.keep (hA0.alloc _).drew.bel) (Nat.le_refl _)).mono ?_; rintro e u3 ⟨b3, s3, t3, rfl, o3, z3⟩; have hA' : Res W5 U.heap.size u3 [(b0, s0, t0), (b1, s1, t1), (b2, s2, t2), (b3, s3, t3)] := (by first | exact hA.call lo5 o3 z3 | exact (hA.alloc _).call lo5 o3 z3 | exact (hA0.alloc _).drew.call lo5 o3 z3); (first | (have hr' := hr.keep z3; clear hr) | (have hr' := (Bx3.new _ _ _ _).keep z3) | (have hr' := ((Bx3.new W5 (.bool p0) X1 X2).keep (Below.refl _ _).drew).keep z3) | skip); (try (have hr := hr'; clear hr')); clear hA o3 z3; have hA := hA'; clear hA')
        | (go_at_call 25; refine (RMul_w (by first | with_reducible exact lx.keep hA.bel | with_reducible exact lx.keep (hA.alloc _).bel | with_reducible exact lx.keep (hA0.alloc _).drew.bel) (by first | with_reducible exact ly.keep hA.bel | with_reducible exact ly.keep (hA.alloc _).bel | with_reducible exact ly.keep (hA0.alloc _).drew.bel) (Nat.le_refl _)).mono ?_; rintro e u4 ⟨b4, s4, t4, rfl, o4, z4⟩; have hA' : Res W5 U.heap.size u4 [(b0, s0, t0), (b1, s1, t1), (b2, s2, t2), (b3, s3, t3), (b4, s4, t4)] := (by first | exact hA.call lo5 o4 z4 | exact (hA.alloc _).call lo5 o4 z4 | exact (hA0.alloc _).drew.call lo5 o4 z4); (first | (have hr' := hr.keep z4; clear hr) | (have hr' := (Bx3.new _ _ _ _).keep z4) | (have hr' := ((Bx3.new W5 (.bool p0) X1 X2).keep (Below.refl _ _).drew).keep z4) | skip); (try (have hr := hr'; clear hr')); clear hA o4 z4; have hA := hA'; clear hA')
        | (go_at_call 26; refine (RMin_w (by first | with_reducible exact lx.keep hA.bel | with_reducible exact lx.keep (hA.alloc _).bel | with_reducible exact lx.keep (hA0.alloc _).drew.bel) (by first | with_reducible exact ly.keep hA.bel | with_reducible exact ly.keep (hA.alloc _).bel | with_reducible exact ly.keep (hA0.alloc _).drew.bel) (Nat.le_refl _)).mono ?_; rintro e u5 ⟨b5, s5, t5, rfl, o5, z5⟩; have hA' : Res W5 U.heap.size u5 [(b0, s0, t0), (b1, s1, t1), (b2, s2, t2), (b3, s3, t3), (b4, s4, t4), (b5, s5, t5)] := (by first | exact hA.call lo5 o5 z5 | exact (hA.alloc _).call lo5 o5 z5 | exact (hA0.alloc _).drew.call lo5 o5 z5); (first | (have hr' := hr.keep z5; clear hr) | (have hr' := (Bx3.new _ _ _ _).keep z5) | (have hr' := ((Bx3.new W5 (.bool p0) X1 X2).keep (Below.refl _ _).drew).keep z5) | skip); (try (have hr := hr'; clear hr')); clear hA o5 z5; have hA := hA'; clear hA')
        | (go_at_call 27; refine (RMax_w (by first | with_reducible exact lx.keep hA.bel | with_reducible exact lx.keep (hA.alloc _).bel | with_reducible exact lx.keep (hA0.alloc _).drew.bel) (by first | with_reducible exact ly.keep hA.bel | with_reducible exact ly.keep (hA.alloc _).bel | with_reducible exact ly.keep (hA0.alloc _).drew.bel) (Nat.le_refl _)).mono ?_; rintro e u6 ⟨b6, s6, t6, rfl, o6, z6⟩; have hA' : Res W5 U.heap.size u6 [(b0, s0, t0), (b1, s1, t1), (b2, s2, t2), (b3, s3, t3), (b4, s4, t4), (b5, s5, t5), (b6, s6, t6)] := (by first | exact hA.call lo5 o6 z6 | exact (hA.alloc _).call lo5 o6 z6 | exact (hA0.alloc _).drew.call lo5 o6 z6); (first | (have hr' := hr.keep z6; clear hr) | (have hr' := (Bx3.new _ _ _ _).keep z6) | (have hr' := ((Bx3.new W5 (.bool p0) X1 X2).keep (Below.refl _ _).drew).keep z6) | skip); (try (have hr := hr'; clear hr')); clear hA o6 z6; have hA := hA'; clear hA')
        | (go_at_call 28; refine (RSum1 (by first | with_reducible exact lx.keep hA.bel | with_reducible exact lx.keep (hA.alloc _).bel | with_reducible exact lx.keep (hA0.alloc _).drew.bel) (by first | exact hr | exact Bx3.new _ _ _ _) (by omega) rfl).mono ?_; rintro e u7 ⟨b7, s7, t7, rfl, o7', z7⟩; have o7 := o7'.wr; clear o7'; have hA' : Res W5 U.heap.size u7 [(b0, s0, t0), (b1, s1, t1), (b2, s2, t2), (b3, s3, t3), (b4, s4, t4), (b5, s5, t5), (b6, s6, t6), (b7, s7, t7)] := (by first | exact hA.call lo5 o7 z7 | exact (hA.alloc _).call lo5 o7 z7); (try clear hr); clear hA o7 z7; have hA := hA'; clear hA'))
      all_goals
        go_wp2_with fail
        go_meet
        exact ⟨_, rfl, rfl, rfl, outs11 hA rq ri rd, Nat.le_trans lo5 hA.bel.size, by simp, (c5.trans (hA.bel.mono lo5)).trans ((bel1 _ _).mono (Nat.le_trans lo5 hA.bel.size))⟩
    case rest =>
      obtain ⟨g, rfl, rfl, rfl, o, hlo, hgl, bL⟩ := hcut
      clear hA hA0 rq ri rd i6 i8 iX m5 m1 m6 m8 mX lo5 qst0 qst1 qst2 ist0 ist1 ist2 dst0 dst1 dst2 qcl0 qcl1 qcl2 icl0 icl1 icl2 dcl0 dcl1 dcl2 i5 i1 lx ly c5 i1' yst1 yst2 ycl1 ycl2
      rw [← EX1.out, ← EX2.out] at i5' lxU
      clear xst1 xst2 xcl1 xcl2
      go_wp2_with fail
      go_loopw [74] (fun t wr => ∃ k : Nat, k ≤ 11 ∧ t = .int .i64 (k : Int) ∧ OutsR U.heap.size g 11 wr k ∧ Below U.heap.size U wr ∧ g < wr.heap.size) (fun t _ => 11 - (intOf t).toNat)
      case atStart => exact ⟨0, by omega, rfl, o, bL, hgl⟩
      case round =>
        obtain ⟨k, hk, rfl, ho, hb, hgr⟩ := hrel
        clear o bL hgl
        by_cases hlt : k < 11
        · obtain ⟨p, A, n, c, B, m, d, hc0, hc1, hc2, hr, hr2, ha, ha2⟩ := ho k (Nat.le_refl _) hlt
          have i0' : (0 : Int) ≤ (k : Int) := by omega
          have i1' : (k : Int) < 11 := by omega
          rw [Nat.mul_comm] at hc0 hc1 hc2
          have hoA := ho.alloc hgr (.cells #[.bool p, .slice A n c, .slice B m d] 26)
          have hrA := hr.below (bel1 wr (.cells #[.bool p, .slice A n c, .slice B m d] 26))
          have hr2A := hr2.below (bel1 wr (.cells #[.bool p, .slice A n c, .slice B m d] 26))
          have ib := Bx3.new wr (.bool p) (.slice A n c) (.slice B m d)
          go_wp2_with fail
          refine (Wipe_c U.heap.size A n c _ hrA g ha).mono ?_
          rintro e w13 ⟨rfl, hw⟩
          have hgw : g < w13.heap.size := by rw [hw.size]; simp; omega
          have ib2 := hw.bx (by omega) ib
          obtain ⟨b0, b1, b2, _, _, _⟩ := id ib2
          have hr2B := hw.wr hr2A
          clear ib ib2
          go_wp2_with fail
          refine (Wipe_c U.heap.size B m d _ hr2B g ha2).mono ?_
          rintro e w14 ⟨rfl, hw2⟩
          have hgw2 : g < w14.heap.size := by rw [hw2.size]; exact hgw
          go_wp2_with fail
          go_roundw
          case rel => exact ⟨k + 1, by omega, by go_num, ((hoA.wiped hw).wiped hw2).next, ((hb.alloc hb.size _).trans hw.below).trans hw2.below, hgw2⟩
          case measure => simp [intOf]; omega
        · obtain rfl : k = 11 := by omega
          clear ho hgr hlt hk
          have lz := lxU.keep hb
          have i5r := i5'.keep hb
          have m5 := i5r.lt
          obtain ⟨x0, x1, x2, _, _, _⟩ := id i5r
          have hBel : Below wr.heap.size wr wr.drew := (Below.refl _ _).drew
          have lw := hb.size
          go_wp2_with fail
          go_region_held3 (fun w' => w'.cell? ⟨g5, 0, none⟩ = some (.bool p0) ∧ w'.cell? ⟨g5, 1, none⟩ = some (.slice (some ⟨gx, 0, none⟩) xs0.length (xs0.length + 3)) ∧ w'.cell? ⟨g5, 2, none⟩ = some (.slice (some ⟨gy, 0, none⟩) ys0.length (ys0.length + 3)))
            (first | (with_reducible exact ⟨cellB hBel m5 x0, cellB hBel m5 x1, cellB hBel m5 x2⟩) | (with_reducible exact ⟨cellB (bel_call hBel (bel1 _ _)) m5 x0, cellB (bel_call hBel (bel1 _ _)) m5 x1, cellB (bel_call hBel (bel1 _ _)) m5 x2⟩) | go_keep)
            (first
              | (go_at_call 30; refine (RFloor_w (lz.keep hBel) (Nat.le_refl _)).mono ?_; rintro e v0 ⟨e0, E0, n0, f0, rfl, q0', z0⟩; have q0 := q0'.mono (lo' := U.heap.size) (Nat.le_trans lw hBel.size); clear q0'; have hBel' : Below wr.heap.size wr v0 := hBel.trans (z0.mono hBel.size); clear hBel; have hBel := hBel'; clear hBel')
              | (go_at_call 31; refine (RCeil_w (lz.keep hBel) (Nat.le_refl _)).mono ?_; rintro e v1 ⟨e1, E1, n1, f1, rfl, q1', z1⟩; have q1 := q1'.mono (lo' := U.heap.size) (Nat.le_trans lw hBel.size); clear q1'; have hBel' : Below wr.heap.size wr v1 := hBel.trans (z1.mono hBel.size); clear hBel; have hBel := hBel'; clear hBel')
              | (go_at_call 32; refine (RRound_w (lz.keep hBel) (Nat.le_refl _)).mono ?_; rintro e v2 ⟨e2, E2, n2, f2, rfl, q2', z2⟩; have q2 := q2'.mono (lo' := U.heap.size) (Nat.le_trans lw hBel.size); clear q2'; have hBel' : Below wr.heap.size wr v2 := hBel.trans (z2.mono hBel.size); clear hBel; have hBel := hBel'; clear hBel'))
          rename_i hHeld
          clear hHeld
          have y2 := Below.refl v2.heap.size v2
          have y1 : Below v1.heap.size v1 v2 := z2.trans (y2.mono z2.size)
          have y0 : Below v0.heap.size v0 v2 := z1.trans (y1.mono z1.size)
          have o := outsI_lit v2 U.heap.size [(e0, E0, n0, f0), (e1, E1, n1, f1), (e2, E2, n2, f2)] 24 (by
            intro e he
            simp only [List.mem_cons, List.not_mem_nil, or_false] at he
            rcases he with rfl | rfl | rfl
            · exact q0.below y0
            · exact q1.below y1
            · exact q2)
          have b08 : Below U.heap.size U v2 := hb.trans (hBel.mono hb.size)
          have bL := b08.alloc b08.size (.cells #[.bool e0, .slice E0 n0 f0, .bool e1, .slice E1 n1 f1, .bool e2, .slice E2 n2 f2] 24)
          have hg : U.heap.size ≤ v2.heap.size := b08.size
          have hgl : v2.heap.size < (v2.alloc (.cells #[.bool e0, .slice E0 n0 f0, .bool e1, .slice E1 n1 f1, .bool e2, .slice E2 n2 f2] 24)).heap.size := by simp
          simp only [List.flatMap_cons, List.flatMap_nil, List.length_cons, List.length_nil, List.cons_append, List.nil_append, List.append_nil] at o
          clear q0 q1 q2 z0 z1 z2 y0 y1 y2 hBel b08 lz i5r m5 x0 x1 x2 hb lw hlo
          obtain ⟨W3, hW3⟩ : ∃ W3, v2.alloc (.cells #[.bool e0, .slice E0 n0 f0, .bool e1, .slice E1 n1 f1, .bool e2, .slice E2 n2 f2] 24) = W3 := ⟨_, rfl⟩
          rw [hW3] at o bL hgl
          go_wp2_with fail
          try rw [hW3]
          clear hW3
          obtain ⟨h, eh⟩ : ∃ h, v2.heap.size = h := ⟨_, rfl⟩
          rw [eh] at o hg hgl
          try rw [eh]
          clear eh
          go_loopw [94] (fun t wr => ∃ k : Nat, k ≤ 3 ∧ t = .int .i64 (k : Int) ∧ OutsI U.heap.size h 3 wr k ∧ Below U.heap.size U wr ∧ h < wr.heap.size) (fun t _ => 3 - (intOf t).toNat)
          case atStart => exact ⟨0, by omega, rfl, o, bL, hgl⟩
          case round =>
            obtain ⟨k, hk, rfl, ho, hb, hgr⟩ := hrel
            by_cases hlt : k < 3
            · obtain ⟨b, A, n, c, hc0, hc1, hr, ha⟩ := ho k (Nat.le_refl _) hlt
              have i0' : (0 : Int) ≤ (k : Int) := by omega
              have i1' : (k : Int) < 3 := by omega
              rw [Nat.mul_comm] at hc0 hc1
              clear o bL hgl
              have hoA := ho.alloc hgr (.cells #[.bool b, .slice A n c] 24)
              have hrA := hr.below (bel1 wr (.cells #[.bool b, .slice A n c] 24))
              go_wp2_with fail
              refine (Wipe_c U.heap.size A n c _ hrA h ha).mono ?_
              rintro e w13 ⟨rfl, hw⟩
              have hgw : h < w13.heap.size := by rw [hw.size]; simp; omega
              go_wp2_with fail
              go_roundw
              case rel => exact ⟨k + 1, by omega, by go_num, hoA.wiped hw, (hb.alloc hb.size _).trans hw.below, hgw⟩
              case measure => simp [intOf]; omega
            · obtain rfl : k = 3 := by omega
              clear o bL ho hgl
              go_wp2_with fail
              refine (awake3_c wr).mono ?_
              rintro e w13 ⟨rfl, b13⟩
              have b2 : Below U.heap.size U w13 := hb.trans (b13.mono hb.size)
              have t5 := (i5'.keep b2).c1
              have t2 := (i0.keep b2).c1
              go_wp2_with fail
              refine (Kept_c A0 xs0 c0 gx w13 (sx.keep b2) (h0.below b2) (by omega)).mono ?_
              rintro e w14 ⟨rfl, b14⟩
              have b3 : Below U.heap.size U w14 := b2.trans (b14.mono b2.size)
              have t6 := (i5'.keep b3).c2
              have t3 := (i0.keep b3).c2
              clear t5 t2
              go_wp2_with fail
              refine (Kept_c B0 ys0 d0 gy w14 (sy.keep b3) (g0.below b3) (by omega)).mono ?_
              rintro e w15 ⟨rfl, b15⟩
              have b4 : Below U.heap.size U w15 := b3.trans (b15.mono b3.size)
              go_wp2_with fail
              go_ret
              exact ⟨rfl, hend.trans (b4.mono hend.size)⟩
end Go.Proofs.Ytaeidephegnkdaa
