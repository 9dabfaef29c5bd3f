/- RefN RefO Awake3 RatJ in one text. -/
import Derived.Test.YtaeidephegnkdaaRatM2
import Derived.Test.YtaeidephegnkdaaMG
import Derived.Test.YtaeidephegnkdaaRatM3
namespace Go.Proofs.Ytaeidephegnkdaa
open Go.RowKit Gm
/- Contracts of the reference of layer 3: Zero, Make (denominators that are not negative), Norm, Equal, Of. -/

theorem cellG3 {w : World} {N o M : Nat} (h : N ≠ M) (u v s : Value) : (((w.setCell ⟨M, 0, none⟩ u).setCell ⟨M, 1, none⟩ v).setCell ⟨M, 2, none⟩ s).cell? ⟨N, o, none⟩ = w.cell? ⟨N, o, none⟩ := by
  rw [World.cell?_setCell_other (h := by intro e; injection e with e; exact h e.symm), cellF2 h]
theorem limbs_one : limbs 1 = [1] := limbs_lit' [1] (by decide) (by decide)
theorem limbs_eq_one {D : Nat} : limbs D = [1] ↔ D = 1 := by
  constructor
  · intro h
    have := val_limbs D
    rw [h] at this
    rw [← this]; rfl
  · intro h; rw [h]; exact limbs_one

set_option maxRecDepth 100000 in
set_option maxHeartbeats 1000000 in
theorem rZero_c (w : World) : Calls Try.prog 83 #[] w (RetRat w 0) := by
  have b1 := bel2 w (.cells #[.bool false, .slice (some ⟨w.heap.size + 1, 0, none⟩) 0 0, .slice (some ⟨w.heap.size + 1 + 1, 0, none⟩) 1 1] 26) (.cells #[] 40)
  have hrow := (Row.new ((w.alloc (.cells #[.bool false, .slice (some ⟨w.heap.size + 1, 0, none⟩) 0 0, .slice (some ⟨w.heap.size + 1 + 1, 0, none⟩) 1 1] 26)).alloc (.cells #[] 40)) [1]).own (lo := w.heap.size) (Lb_lit _ (by decide)) b1.size (by decide)
  have fi := ((RatAt.new w false (.slice (some ⟨w.heap.size + 1, 0, none⟩) 0 0) (.slice (some ⟨w.heap.size + 1 + 1, 0, none⟩) 1 1)).keep (bel1 _ (.cells #[] 40))).keep (bel1 _ (.cells #[.int .u32 1] 40))
  have HRET := Lib.hid (show RetRat w 0 (.returned (.agg #[.bool false, .slice (some ⟨w.heap.size + 1, 0, none⟩) 0 0, .slice (some ⟨w.heap.size + 1 + 1, 0, none⟩) 1 1])) (((w.alloc (.cells #[.bool false, .slice (some ⟨w.heap.size + 1, 0, none⟩) 0 0, .slice (some ⟨w.heap.size + 1 + 1, 0, none⟩) 1 1] 26)).alloc (.cells #[] 40)).alloc (.cells #[.int .u32 1] 40)) from ⟨some ⟨w.heap.size + 1, 0, none⟩, 0, some ⟨w.heap.size + 1 + 1, 0, none⟩, 1, by
      show _ = Ending.returned (.agg #[.bool (decide ((0 : Int) < 0)), .slice _ (limbs 0).length 0, .slice _ (limbs 1).length 1])
      rw [limbs_one, limbs_zero]; rfl, by
      show Own _ _ _ _ (limbs 0)
      rw [limbs_zero]; exact Own.nil _ _ _, by
      show Own _ _ _ _ (limbs 1)
      rw [limbs_one]
      simpa [cellsOf] using hrow, b1.alloc b1.size _⟩)
  clear b1 hrow
  go_enter Try.func83, Try.ntmps83
  go_wp2_with fail
  exact bodyPost_ret (v := .agg #[.bool false, .slice (some ⟨w.heap.size + 1, 0, none⟩) 0 0, .slice (some ⟨w.heap.size + 1 + 1, 0, none⟩) 1 1]) (by simp [results, Try.results83, go_sem, fi.c0, fi.c1, fi.c2]) rfl HRET.out

theorem rbox2R (w : World) (p q : Bool) (u v : Value) :
    ∃ W, ((w.alloc (.cells #[.bool p, u] 24)).alloc (.cells #[.bool q, v] 24)).alloc (.cells #[.bool false, .slice none 0 0, .slice none 0 0] 26) = W ∧ Below w.heap.size w W ∧ W.heap.size = w.heap.size + 3 ∧ IntAt W w.heap.size p u ∧ IntAt W (w.heap.size + 1) q v ∧ RatAt W (w.heap.size + 1 + 1) false (.slice none 0 0) (.slice none 0 0) := by
  refine ⟨_, rfl, (((Below.refl _ _).alloc (Nat.le_refl _) _).alloc (by simp) _).alloc (by simp; omega) _, by simp, ?_, ?_, ?_⟩
  · refine ⟨?_, ?_, ?_, ?_⟩ <;> go_simp
  · refine ⟨?_, ?_, ?_, ?_⟩ <;> go_simp
  · refine ⟨?_, ?_, ?_, ?_, ?_, ?_⟩ <;> go_simp

theorem boxes2k (w : World) (p q : Bool) (u v : Value) :
    ∃ W, (w.alloc (.cells #[.bool p, u] 24)).alloc (.cells #[.bool q, v] 24) = W ∧ Below w.heap.size w W ∧ IntAt W w.heap.size p u ∧ IntAt W (w.heap.size + 1) q v := by
  refine ⟨_, rfl, ((Below.refl _ _).alloc (Nat.le_refl _) _).alloc (by simp) _, ?_, ?_⟩
  · refine ⟨?_, ?_, ?_, ?_⟩ <;> go_simp
  · refine ⟨?_, ?_, ?_, ?_⟩ <;> go_simp

set_option maxRecDepth 100000 in
set_option maxHeartbeats 2000000 in
theorem rMake_c (p q : Bool) (A B : Option Addr) (xs ys : List Nat) (c d : Nat) (w : World) (n : Int) (D : Nat) (r : Rat) (K : Nat) (ha : Lim w A c xs) (hb : Lim w B d ys) (hs : xs.length ≤ K) (ht : ys.length ≤ K) (hK : K ≤ 70368744177650) (en : iv p xs = n) (eD : iv q ys = (D : Int)) (hr : mkRat n D = r) :
    Calls Try.prog 50 #[.agg #[.bool p, .slice A xs.length c], .agg #[.bool q, .slice B ys.length d]] w (RetRat w r) := by
  obtain ⟨W, hW, hbW, hsz, i2, i3, i4⟩ := rbox2R w p q (.slice A xs.length c) (.slice B ys.length d)
  have j2 := i2.lt
  have j3 := i3.lt
  have j4 := i4.lt
  have zn : (limbs n.natAbs).length ≤ K := by rw [← en]; exact iv_len ha.lb hs
  obtain ⟨E, eE⟩ : ∃ E : Int, (D : Int) = E := ⟨_, rfl⟩
  rw [eE] at eD
  have zE : (limbs E.natAbs).length ≤ K := by rw [← eD]; exact iv_len hb.lb ht
  have hEn : E.natAbs = D := by omega
  have hE0 : decide (E < 0) = false := by rw [decide_eq_false_iff_not]; omega
  have HW := Lib.hid hW
  have HR := Lib.hid hr
  have EN := Lib.hid en
  have ED := Lib.hid eD
  have EE := Lib.hid eE
  have HEN := Lib.hid hEn
  clear hW hsz hr en eD eE hEn
  replace ha := ha.below hbW
  replace hb := hb.below hbW
  have x0 := i3.c0
  have x1 := i3.c1
  go_enter Try.func50, Try.ntmps50
  by_cases h0 : D = 0
  · have hsg : sgn E = 0 := by rw [← EE.out, h0]; decide
    have hr0 : r = 0 := by rw [← HR.out, h0]; exact Rat.mkRat_zero _
    have HR0 := Lib.hid hr0
    clear hr0 h0
    go_wp2_with fail
    rw [HW.out]
    refine (rSign_e q B ys d _ E 0 hb (by omega) ED.out hsg).mono ?_
    rintro e w1 ⟨rfl, b1⟩
    go_wp2_with fail
    refine (rZero_c _).mono ?_
    rw [← HR0.out]
    rintro e w2 ⟨A1, c1, B1, d1, rfl, r1, r2, b2⟩
    have b02 := b1.trans (b2.mono b1.size)
    have t4 := i4.keep b02
    obtain ⟨z0, z1, z2, z3, z4, z5⟩ := id t4
    have HRET := Lib.hid (ret_move (w := w) (W := w1) t4 (by omega) r1 r2 (Nat.le_trans hbW.size b1.size) (hbW.trans (b02.mono hbW.size)))
    clear r1 r2 b1 b2 b02 t4
    go_wp2_with fail
    exact bodyPost_ret (v := .agg #[.bool (decide (r.num < 0)), .slice A1 (limbs r.num.natAbs).length c1, .slice B1 (limbs r.den).length d1]) (by simp [results, Try.results50, go_sem, z0, z1, z2]) rfl HRET.out
  have hsg : sgn E = 1 := by rw [← EE.out]; unfold sgn; split <;> (try split) <;> omega
  go_wp2_with fail
  rw [HW.out]
  refine (rSign_e q B ys d _ E 1 hb (by omega) ED.out hsg).mono ?_
  rintro e w1 ⟨rfl, b1⟩
  clear x0 x1 hsg
  replace i2 := i2.keep b1
  replace i3 := i3.keep b1
  replace i4 := i4.keep b1
  replace ha := ha.below b1
  replace hb := hb.below b1
  have hb1 := hbW.trans (b1.mono hbW.size)
  clear b1 hbW j2 j3 j4
  have x0 := i3.c0
  have x1 := i3.c1
  go_wp2_with fail
  refine (rNorm_n q B ys d _ E K hb ht ED.out (by omega)).mono ?_
  rintro e w2 ⟨A5, c5, rfl, r5, b2⟩
  have jw2 : w.heap.size + 1 + 1 < w2.heap.size := Nat.lt_of_lt_of_le i4.lt b2.size
  rw [hE0]
  have i5 := IntAt.new w2 false (.slice A5 (limbs E.natAbs).length c5)
  have bo := bel1 w2 (.cells #[.bool false, .slice A5 (limbs E.natAbs).length c5] 24)
  obtain ⟨w3, hw3⟩ : ∃ w3, w2.alloc (.cells #[.bool false, .slice A5 (limbs E.natAbs).length c5] 24) = w3 := ⟨_, rfl⟩
  rw [hw3] at i5 bo
  have b13 := b2.trans (bo.mono b2.size)
  have o5 := (r5.below bo).mono (lo' := w.heap.size) hb1.size
  replace i2 := i2.keep b13
  replace i3 := i3.keep b13
  replace i4 := i4.keep b13
  replace ha := ha.below b13
  replace hb := hb.below b13
  have hb3 := hb1.trans (b13.mono hb1.size)
  clear x0 x1 r5 b2 bo b13 hb1
  have y0 := i5.c0
  have y1 := i5.c1
  have m5 := i5.lt
  have hl1 := lit1 w3 [1] (Lb_lit _ (by decide)) (by decide)
  have bl1 := bel1 w3 (.cells (cellsOf [1]) 40)
  go_wp2_with fail
  refine (rEqual_c A5 _ (limbs E.natAbs) [1] c5 _ _ (o5.lim.below bl1) hl1 (by omega) (by decide)).mono ?_
  rintro e w4 ⟨rfl, k, hw4⟩
  have b34 : Below w3.heap.size w3 w4 := by
    rw [hw4]
    exact below_drewN bl1 k
  replace i2 := i2.keep b34
  replace i3 := i3.keep b34
  replace i4 := i4.keep b34
  replace i5 := i5.keep b34
  replace ha := ha.below b34
  replace hb := hb.below b34
  replace o5 := o5.below b34
  have hb4 := hb3.trans (b34.mono hb3.size)
  clear hw4 b34 hw3 hl1 bl1 hb3 y0 y1 m5
  have m2 := i2.lt
  have m3 := i3.lt
  have m4 := i4.lt
  have m5 := i5.lt
  by_cases h1 : D = 1
  · have hd : decide (limbs E.natAbs = [1]) = true := decide_eq_true (limbs_eq_one.2 (HEN.out.trans h1))
    rw [hd]
    obtain ⟨a1, a2, a3⟩ := mkRat_abs (n := n) (d := D) h0
    rw [HR.out] at a1 a2 a3
    have a1' : r.num.natAbs = n.natAbs := by rw [a1, h1, Nat.gcd_one_right, Nat.div_one]
    have a2' : decide (r.num < 0) = decide (n < 0) := decide_eq_decide.2 a2
    have a3' : r.den = E.natAbs := by rw [a3, h1, Nat.gcd_one_right, Nat.div_one, HEN.out, h1]
    have A1' := Lib.hid a1'
    have A2' := Lib.hid a2'
    have A3' := Lib.hid a3'
    clear hd a1 a2 a3 a1' a2' a3' h1 h0
    have x0 := i2.c0
    have x1 := i2.c1
    have y1 := i5.c1
    have n2 : w.heap.size ≠ w.heap.size + 1 + 1 := by omega
    have n5 : w2.heap.size ≠ w.heap.size + 1 + 1 := by omega
    have hBel : Below w4.heap.size w4 w4.drew := (Below.refl _ _).drew
    go_wp2_with fail
    go_region_held3 (fun w' => w'.cell? ⟨w.heap.size, 0, none⟩ = some (.bool p) ∧ w'.cell? ⟨w.heap.size, 1, none⟩ = some (.slice A xs.length c) ∧ w'.cell? ⟨w2.heap.size, 1, none⟩ = some (.slice A5 (limbs E.natAbs).length c5))
      (first | (with_reducible exact ⟨cellB hBel m2 x0, cellB hBel m2 x1, cellB hBel m5 y1⟩) | (with_reducible exact ⟨(cellG3 n2 _ _ _).trans (cellB hBel m2 x0), (cellG3 n2 _ _ _).trans (cellB hBel m2 x1), (cellG3 n5 _ _ _).trans (cellB hBel m5 y1)⟩) | go_keep)
      (first
        | (go_at_call 84; refine (rNorm_n p A xs c _ n K ?_ hs EN.out (by omega)).mono ?_; exact ha.below hBel; rintro e v1 ⟨B1, f1, rfl, q1, s1⟩; have p1 := q1.mono (lo' := w.heap.size) (Nat.le_trans hb4.size hBel.size); have hBel' : Below w4.heap.size w4 v1 := hBel.trans (s1.mono hBel.size); clear hBel; have hBel := hBel'; clear hBel'; have t4 := i4.keep hBel; obtain ⟨z0, z1, z2, z3, z4, z5⟩ := id t4))
    rename_i hHeld
    clear hHeld
    have hret := ret_rat (w := w) (r := r) t4 (by omega) (A := B1) (c := f1) (A' := A5) (c' := c5) (by rw [A1'.out]; exact p1) (by rw [A3'.out]; exact o5.below hBel) (hb4.trans (hBel.mono hb4.size))
    rw [A1'.out, A2'.out, A3'.out] at hret
    have HRET := Lib.hid hret
    clear hret q1 s1 p1 t4 hBel
    go_wp2_with fail
    exact bodyPost_ret (v := .agg #[.bool (decide (n < 0)), .slice B1 (limbs n.natAbs).length f1, .slice A5 (limbs E.natAbs).length c5]) (by simp [results, Try.results50, go_sem, z0, z1, z2]) rfl HRET.out
  have hd : decide (limbs E.natAbs = [1]) = false := decide_eq_false (fun h => h1 (HEN.out.symm.trans (limbs_eq_one.1 h)))
  rw [hd]
  clear hd h1
  obtain ⟨a1, a3⟩ := mkRat_parts (n := n) (d := D) h0
  rw [HR.out] at a1 a3
  obtain ⟨G, eG⟩ : ∃ G : Int, ((Nat.gcd n.natAbs E.natAbs : Nat) : Int) = G := ⟨_, rfl⟩
  have hG : G ≠ 0 := by
    have := Nat.gcd_pos_of_pos_right n.natAbs (show 0 < E.natAbs by have := HEN.out; omega)
    omega
  have zG : (limbs G.natAbs).length ≤ K := by rw [← eG, Int.natAbs_natCast]; exact gcd_sz zn zE rfl (Nat.le_refl _)
  obtain ⟨N', eN⟩ : ∃ N : Int, n / G = N := ⟨_, rfl⟩
  obtain ⟨N2, eN2⟩ : ∃ N : Int, n % G = N := ⟨_, rfl⟩
  obtain ⟨E', eE'⟩ : ∃ N : Int, E / G = N := ⟨_, rfl⟩
  obtain ⟨E2, eE2⟩ : ∃ N : Int, E % G = N := ⟨_, rfl⟩
  have a1' : r.num = N' := by rw [a1, ← eN, ← eG, HEN.out]
  have hEd : E' = ((D / Nat.gcd n.natAbs D : Nat) : Int) := by rw [← eE', ← eG, HEN.out, ← EE.out]; rfl
  have a3' : r.den = E'.natAbs := by rw [a3, hEd, Int.natAbs_natCast]
  have hE0' : decide (E' < 0) = false := by rw [decide_eq_false_iff_not, hEd]; omega
  have A1' := Lib.hid a1'
  have A3' := Lib.hid a3'
  have EG := Lib.hid eG
  have EN' := Lib.hid eN
  have EN2 := Lib.hid eN2
  have EE' := Lib.hid eE'
  have EE2 := Lib.hid eE2
  clear a1 a3 a1' a3' eG eN eN2 eE' eE2 hEd h0
  have x0 := i2.c0
  have x1 := i2.c1
  have y0 := i3.c0
  have y1 := i3.c1
  go_wp2_with fail
  refine (rIGCD_n p q A B xs ys c d _ n E G K K ha hb hs ht EN.out ED.out EG.out (by omega) (by omega)).mono ?_
  rintro e w5 ⟨A6, c6, rfl, r6, b5⟩
  have i6 := IntAt.new w5 (decide (G < 0)) (.slice A6 (limbs G.natAbs).length c6)
  have bo := bel1 w5 (.cells #[.bool (decide (G < 0)), .slice A6 (limbs G.natAbs).length c6] 24)
  obtain ⟨w6, hw6⟩ : ∃ w6, w5.alloc (.cells #[.bool (decide (G < 0)), .slice A6 (limbs G.natAbs).length c6] 24) = w6 := ⟨_, rfl⟩
  rw [hw6] at i6 bo
  have b46 := b5.trans (bo.mono b5.size)
  have l6 := r6.lim.below bo
  replace i2 := i2.keep b46
  replace i3 := i3.keep b46
  replace i4 := i4.keep b46
  replace ha := ha.below b46
  replace hb := hb.below b46
  have hb6 := hb4.trans (b46.mono hb4.size)
  clear x0 x1 y0 y1 r6 b5 bo b46 hb4 m2 m3 m4 m5 i5 o5
  have x0 := i2.c0
  have x1 := i2.c1
  have y0 := i6.c0
  have y1 := i6.c1
  have m2 := i2.lt
  have m6 := i6.lt
  go_wp2_with fail
  refine (rIDivMod_n p _ A A6 xs (limbs G.natAbs) c c6 _ n G N' N2 K K ha l6 hs zG EN.out (iv_canon G) hG EN'.out EN2.out (by omega) (by omega)).mono ?_
  rintro e w7 ⟨A7, c7, A8, c8, rfl, r7, r8, b7⟩
  obtain ⟨w8, hw8, bo, i7, i8⟩ := boxes2k w7 (decide (N' < 0)) (decide (N2 < 0)) (.slice A7 (limbs N'.natAbs).length c7) (.slice A8 (limbs N2.natAbs).length c8)
  have b68 := b7.trans (bo.mono b7.size)
  have o7 := (r7.below bo).mono (lo' := w.heap.size) hb6.size
  replace i3 := i3.keep b68
  replace i4 := i4.keep b68
  replace i6 := i6.keep b68
  replace hb := hb.below b68
  replace l6 := l6.below b68
  have hb8 := hb6.trans (b68.mono hb6.size)
  clear x0 x1 y0 y1 r7 r8 b7 bo b68 hb6 m2 m6 hw6 i2 ha
  have x0 := i3.c0
  have x1 := i3.c1
  have y0 := i6.c0
  have y1 := i6.c1
  have m3 := i3.lt
  have m6 := i6.lt
  go_wp2_with fail
  refine (rIDivMod_n q _ B A6 ys (limbs G.natAbs) d c6 _ E G E' E2 K K hb l6 ht zG ED.out (iv_canon G) hG EE'.out EE2.out (by omega) (by omega)).mono ?_
  rintro e w9 ⟨A9, c9, A10, c10, rfl, r9, r10, b9⟩
  rw [hE0']
  obtain ⟨wA, hwA, bo, i10, i11⟩ := boxes2k w9 false (decide (E2 < 0)) (.slice A9 (limbs E'.natAbs).length c9) (.slice A10 (limbs E2.natAbs).length c10)
  have b8A := b9.trans (bo.mono b9.size)
  have o9 := (r9.below bo).mono (lo' := w.heap.size) hb8.size
  have f4 := i4.keep b8A
  have f7 := i7.keep b8A
  have p7 := o7.below b8A
  have hbA := hb8.trans (b8A.mono hb8.size)
  clear x0 x1 y0 y1 r9 r10 b9 bo b8A hb8 m3 m6 hw8 i3 i6 hb l6 i4 i7 o7
  have x0 := f7.c0
  have x1 := f7.c1
  have y0 := i10.c0
  have y1 := i10.c1
  have m7 := f7.lt
  have m10 := i10.lt
  have m4 := f4.lt
  obtain ⟨z0, z1, z2, z3, z4, z5⟩ := id f4
  have hret := ret_rat (w := w) (r := r) f4 (by omega) (A := A7) (c := c7) (A' := A9) (c' := c9) (by rw [A1'.out]; exact p7) (by rw [A3'.out]; exact o9) hbA
  rw [A1'.out, A3'.out] at hret
  have HRET := Lib.hid hret
  clear hret
  go_wp2_with fail
  exact bodyPost_ret (v := .agg #[.bool (decide (N' < 0)), .slice A7 (limbs N'.natAbs).length c7, .slice A9 (limbs E'.natAbs).length c9]) (by simp [results, Try.results50, go_sem, z0, z1, z2]) rfl HRET.out

/- Contracts of the reference of layer 3: Norm, Equal, Of, Size. -/

theorem fieldNum (b s t : Value) (w : World) : (Instr.field 26 (.agg #[b, s, t]) 0).run Try.prog w = .ok (.agg #[b, s]) w := by
  simp [Instr.field, run_underlying Try.underlying26, asAgg, part, go_sem]
theorem fieldDen (b s t : Value) (w : World) : (Instr.field 26 (.agg #[b, s, t]) 1).run Try.prog w = .ok t w := by
  simp [Instr.field, run_underlying Try.underlying26, asAgg, part, go_sem]
theorem fieldMag (b s : Value) (w : World) : (Instr.field 24 (.agg #[b, s]) 1).run Try.prog w = .ok s w := by
  simp [Instr.field, run_underlying Try.underlying24, asAgg, part, go_sem]
theorem rBits_e (A : Option Addr) (xs : List Nat) (c : Nat) (w : World) (y : Nat) (h : Lim w A c xs) (hs : xs.length ≤ 70368744177664) (hy : nb (val xs) = y) : Calls Try.prog 116 #[.slice A xs.length c] w (RetI w (y : Int)) := by
  subst hy; exact rBits_c A xs c w h hs
set_option maxRecDepth 100000 in
set_option maxHeartbeats 1000000 in
theorem rRNorm_c (p : Bool) (A B : Option Addr) (xs ys : List Nat) (c d : Nat) (w : World) (r : Rat) (K : Nat) (ha : Lim w A c xs) (hb : Lim w B d ys) (hs : xs.length ≤ K) (ht : ys.length ≤ K) (hK : K ≤ 70368744177650) (hr : rv p xs ys = r) :
    Calls Try.prog 11 #[.agg #[.bool p, .slice A xs.length c, .slice B ys.length d]] w (RetRat w r) := by
  obtain ⟨W, hW, hbW, hsz, i1, i2⟩ := rbox1r w p (.slice A xs.length c) (.slice B ys.length d)
  have j1 := i1.lt
  have j2 := i2.lt
  obtain ⟨x0, x1, x2, _, _, _⟩ := id i1
  have HW := Lib.hid hW
  have HR := Lib.hid hr
  clear hW hsz hr
  replace ha := ha.below hbW
  replace hb := hb.below hbW
  go_enter Try.func11, Try.ntmps11
  go_wp2_with fail
  rw [HW.out]
  refine (rMake_c p false A B xs ys c d _ (iv p xs) (val ys) r K ha hb hs ht hK rfl rfl HR.out).mono ?_
  rintro e w1 ⟨A1, c1, B1, d1, rfl, r1, r2, b1⟩
  have t2 := i2.keep b1
  obtain ⟨y0, y1, y2, y3, y4, y5⟩ := id t2
  have HRET := Lib.hid (ret_move (W := W) t2 (by omega) r1 r2 hbW.size (hbW.trans (b1.mono hbW.size)))
  clear r1 r2 b1 t2
  go_wp2_with fail
  exact bodyPost_ret (v := .agg #[.bool (decide (r.num < 0)), .slice A1 (limbs r.num.natAbs).length c1, .slice B1 (limbs r.den).length d1]) (by simp [results, Try.results11, go_sem, y0, y1, y2]) rfl HRET.out

set_option maxRecDepth 100000 in
set_option maxHeartbeats 1000000 in
theorem rREq_c (r : Rat) (A B C E : Option Addr) (c d f g : Nat) (w : World) (ha : Lim w A c (limbs r.num.natAbs)) (hb : Lim w B d (limbs r.den)) (hc : Lim w C f (limbs r.num.natAbs)) (he : Lim w E g (limbs r.den)) (zn : (limbs r.num.natAbs).length ≤ 70368744177664) (zd : (limbs r.den).length ≤ 70368744177664) :
    Calls Try.prog 10 #[.agg #[.bool (decide (r.num < 0)), .slice A (limbs r.num.natAbs).length c, .slice B (limbs r.den).length d], .agg #[.bool (decide (r.num < 0)), .slice C (limbs r.num.natAbs).length f, .slice E (limbs r.den).length g]] w (RetB w true) := by
  obtain ⟨W, hW, hbW, hsz, i1, i2⟩ := rbox2 w (decide (r.num < 0)) (decide (r.num < 0)) (.slice A (limbs r.num.natAbs).length c) (.slice B (limbs r.den).length d) (.slice C (limbs r.num.natAbs).length f) (.slice E (limbs r.den).length g)
  have j1 := i1.lt
  have j2 := i2.lt
  obtain ⟨x0, x1, x2, _, _, _⟩ := id i1
  obtain ⟨y0, y1, y2, _, _, _⟩ := id i2
  have HW := Lib.hid hW
  clear hW hsz
  replace ha := ha.below hbW
  replace hb := hb.below hbW
  replace hc := hc.below hbW
  replace he := he.below hbW
  go_enter Try.func10, Try.ntmps10
  go_wp2_with fail
  rw [HW.out]
  refine (rIEq_c r.num A C c f _ ha hc zn).mono ?_
  rintro e w1 ⟨rfl, b1⟩
  clear x0 x1 x2 y0 y1 y2
  obtain ⟨x0, x1, x2, _, _, _⟩ := i1.keep b1
  obtain ⟨y0, y1, y2, _, _, _⟩ := i2.keep b1
  go_wp2_with fail
  refine (rEq_n B E (limbs r.den) (limbs r.den) d g _ _ _ (hb.below b1) (he.below b1) (Nat.le_refl _) (Nat.le_refl _) rfl zd zd).mono ?_
  rintro e w2 ⟨rfl, b2⟩
  go_wp2_with fail
  go_ret
  exact ⟨rfl, hbW.trans ((b1.trans (b2.mono b1.size)).mono hbW.size)⟩

set_option maxRecDepth 100000 in
set_option maxHeartbeats 1000000 in
theorem rOf_c (n d : Int) (w : World) (r : Rat) (h1 : -9223372036854775808 ≤ n) (h2 : n ≤ 9223372036854775807) (d1 : 1 ≤ d) (d2 : d ≤ 9223372036854775807) (hr : mkRat n d.toNat = r) :
    Calls Try.prog 41 #[.int .i64 n, .int .i64 d] w (RetRat w r) := by
  obtain ⟨W, hW, hbW, hsz, i0⟩ := rbox0 w
  have j0 := i0.lt
  have zn : (limbs n.natAbs).length ≤ 2 := limbs_len2 (by rw [show Ba * Ba = 18446744073709551616 by decide]; omega)
  have zd : (limbs d.natAbs).length ≤ 2 := limbs_len2 (by rw [show Ba * Ba = 18446744073709551616 by decide]; omega)
  obtain ⟨n', en⟩ : ∃ x, n = x := ⟨_, rfl⟩
  obtain ⟨d', ed⟩ : ∃ x, d = x := ⟨_, rfl⟩
  have zn' : (limbs n'.natAbs).length ≤ 2 := by rw [← en]; exact zn
  have zd' : (limbs d'.natAbs).length ≤ 2 := by rw [← ed]; exact zd
  have hd' : (d'.toNat : Int) = d' := by omega
  have hr' : mkRat n' d'.toNat = r := by rw [← en, ← ed]; exact hr
  have HW := Lib.hid hW
  have HR := Lib.hid hr'
  have HD := Lib.hid hd'
  have EN := Lib.hid en
  have ED := Lib.hid ed
  clear hW hsz hr hr' zn zd hd' en ed
  go_enter Try.func41, Try.ntmps41
  go_wp2_with fail
  rw [HW.out]
  refine (rFromInt_n n n' _ h1 h2 EN.out).mono ?_
  rintro e w1 ⟨A1, c1, rfl, r1, b1⟩
  go_wp2_with fail
  refine (rFromInt_n d d' _ (by omega) d2 ED.out).mono ?_
  rintro e w2 ⟨A2, c2, rfl, r2, b2⟩
  go_wp2_with fail
  refine (rMake_c _ _ A1 A2 (limbs n'.natAbs) (limbs d'.natAbs) c1 c2 _ n' d'.toNat r 2 (r1.lim.below b2) r2.lim zn' zd' (by omega) (iv_canon n') (by rw [iv_canon]; exact HD.out.symm) HR.out).mono ?_
  rintro e w3 ⟨A3, c3, B3, d3, rfl, q1, q2, b3⟩
  have b02 := b1.trans (b2.mono b1.size)
  have b03 := b02.trans (b3.mono b02.size)
  have t0 := i0.keep b03
  obtain ⟨y0, y1, y2, y3, y4, y5⟩ := id t0
  have HRET := Lib.hid (ret_move (W := w2) t0 (Nat.le_refl _) q1 q2 (Nat.le_trans hbW.size b02.size) (hbW.trans (b03.mono hbW.size)))
  clear r1 r2 q1 q2 b1 b2 b3 b02 b03 t0
  go_wp2_with fail
  exact bodyPost_ret (v := .agg #[.bool (decide (r.num < 0)), .slice A3 (limbs r.num.natAbs).length c3, .slice B3 (limbs r.den).length d3]) (by simp [results, Try.results41, go_sem, y0, y1, y2]) rfl HRET.out


/- law03's awake returns true. -/

theorem rat_sz {r : Rat} (hn : r.num.natAbs ≤ 4294967295) (hd : r.den ≤ 4294967295) : (limbs r.num.natAbs).length ≤ 2 ∧ (limbs r.den).length ≤ 2 :=
  ⟨limbs_len2 (Nat.lt_of_le_of_lt hn (by decide)), limbs_len2 (Nat.lt_of_le_of_lt hd (by decide))⟩
theorem int_sz {n : Int} (hn : n.natAbs ≤ 4294967295) : (limbs n.natAbs).length ≤ 2 := limbs_len2 (Nat.lt_of_le_of_lt hn (by decide))

set_option maxRecDepth 100000 in
set_option maxHeartbeats 2000000 in
theorem awake3_c (w : World) : Calls Try.prog 33 #[] w (RetB w true) := by
  obtain ⟨a, ea⟩ : ∃ r : Rat, mkRat 1 6 = r := ⟨_, rfl⟩
  obtain ⟨h, eh⟩ : ∃ r : Rat, mkRat 1 2 = r := ⟨_, rfl⟩
  obtain ⟨f, ef⟩ : ∃ r : Rat, mkRat 5 2 = r := ⟨_, rfl⟩
  obtain ⟨g, eg⟩ : ∃ r : Rat, mkRat (-7) 2 = r := ⟨_, rfl⟩
  obtain ⟨k, ek⟩ : ∃ r : Rat, mkRat (-1) 3 = r := ⟨_, rfl⟩
  obtain ⟨t, et⟩ : ∃ n : Int, 3 = n := ⟨_, rfl⟩
  obtain ⟨u, eu⟩ : ∃ n : Int, 2 = n := ⟨_, rfl⟩
  obtain ⟨v, ev⟩ : ∃ n : Int, -4 = n := ⟨_, rfl⟩
  obtain ⟨x, ex⟩ : ∃ n : Int, -1 = n := ⟨_, rfl⟩
  have za := rat_sz (r := a) (by rw [← ea]; decide) (by rw [← ea]; decide)
  have zh := rat_sz (r := h) (by rw [← eh]; decide) (by rw [← eh]; decide)
  have zf := rat_sz (r := f) (by rw [← ef]; decide) (by rw [← ef]; decide)
  have zg := rat_sz (r := g) (by rw [← eg]; decide) (by rw [← eg]; decide)
  have zk := rat_sz (r := k) (by rw [← ek]; decide) (by rw [← ek]; decide)
  have zt := int_sz (n := t) (by rw [← et]; decide)
  have zu := int_sz (n := u) (by rw [← eu]; decide)
  have zv := int_sz (n := v) (by rw [← ev]; decide)
  have zx := int_sz (n := x) (by rw [← ex]; decide)
  have s1 : a + rv (decide (t < 0)) (limbs t.natAbs) [9] = h := by
    unfold rv
    rw [iv_canon, ← et, ← ea, ← eh, show val [9] = 9 from rfl, Rat.mkRat_add_mkRat _ _ (by decide) (by decide)]
    exact (Rat.mkRat_eq_iff (by decide) (by decide)).2 (by decide)
  have s2 : rrnd f = u := by rw [← ef, ← eu]; decide
  have s3 : rrnd g = v := by rw [← eg, ← ev]; decide
  have s4 : k.floor = x := by rw [← ek, ← ex]; decide
  have s5 : rsz (rv false [] []) = 1 := by
    rw [rv_den0 rfl]
    show nb 0 + nb 1 = 1
    rw [nb_zero, nb_pos (by decide), nb_zero]
  have EA := Lib.hid ea
  have EH := Lib.hid eh
  have EF := Lib.hid ef
  have EGG := Lib.hid eg
  have EK := Lib.hid ek
  have ET := Lib.hid et
  have EU := Lib.hid eu
  have EV := Lib.hid ev
  have EX := Lib.hid ex
  have S1 := Lib.hid s1
  have S2 := Lib.hid s2
  have S3 := Lib.hid s3
  have S4 := Lib.hid s4
  have S5 := Lib.hid s5
  clear ea eh ef eg ek et eu ev ex s1 s2 s3 s4 s5
  go_enter Try.func33, Try.ntmps33
  go_wp2_with fail
  refine (rOf_c 1 6 _ a (by omega) (by omega) (by omega) (by omega) EA.out).mono ?_
  rintro e w1 ⟨A1, c1, B1, d1, rfl, r1, q1, b1⟩
  go_wp2_with fail
  refine (rFromInt_n 3 t _ (by omega) (by omega) ET.out).mono ?_
  rintro e w2 ⟨A2, c2, rfl, r2, b2⟩
  have hl := lit1 w2 [9] (Lb_lit _ (by decide)) (by decide)
  have bo := bel1 w2 (.cells (cellsOf [9]) 40)
  have b3 := b2.trans (bo.mono b2.size)
  go_wp2_with fail
  refine (RAdd_c _ _ A1 B1 A2 _ (limbs a.num.natAbs) (limbs a.den) (limbs t.natAbs) [9] c1 d1 c2 _ _ a _ h 2 (r1.lim.below b3) (q1.lim.below b3) (r2.lim.below bo) hl za.1 za.2 zt (by decide) (by omega) (by omega) (rv_canon a) rfl S1.out).mono ?_
  rintro e w4 ⟨A4, c4, B4, d4, rfl, r4, q4, b4⟩
  have hb4 : Below w.heap.size w w4 := b1.trans ((b3.trans (b4.mono b3.size)).mono b1.size)
  clear r1 q1 r2 b1 b2 bo b3 b4 hl
  go_wp2_with fail
  refine (rOf_c 1 2 _ h (by omega) (by omega) (by omega) (by omega) EH.out).mono ?_
  rintro e w5 ⟨A5, c5, B5, d5, rfl, r5, q5, b5⟩
  go_wp2_with fail
  refine (rREq_c h A4 B4 A5 B5 c4 d4 c5 d5 _ (r4.lim.below b5) (q4.lim.below b5) r5.lim q5.lim (by omega) (by omega)).mono ?_
  rintro e w6 ⟨rfl, b6⟩
  have hb6 := hb4.trans ((b5.trans (b6.mono b5.size)).mono hb4.size)
  clear r4 q4 r5 q5 b5 b6 hb4
  go_wp2_with fail
  refine (rOf_c 5 2 _ f (by omega) (by omega) (by omega) (by omega) EF.out).mono ?_
  rintro e w7 ⟨A7, c7, B7, d7, rfl, r7, q7, b7⟩
  go_wp2_with fail
  refine (RRound_c _ A7 B7 (limbs f.num.natAbs) (limbs f.den) c7 d7 _ f u 2 r7.lim q7.lim zf.1 zf.2 (by omega) (by omega) (rv_canon f) S2.out).mono ?_
  rintro e w8 ⟨A8, c8, rfl, r8, b8⟩
  go_wp2_with fail
  refine (rFromInt_n 2 u _ (by omega) (by omega) EU.out).mono ?_
  rintro e w9 ⟨A9, c9, rfl, r9, b9⟩
  go_wp2_with fail
  refine (rIEq_c u A8 A9 c8 c9 _ (r8.lim.below b9) r9.lim (by omega)).mono ?_
  rintro e w10 ⟨rfl, b10⟩
  have hb10 := hb6.trans ((b7.trans ((b8.trans ((b9.trans (b10.mono b9.size)).mono b8.size)).mono b7.size)).mono hb6.size)
  clear r7 q7 r8 r9 b7 b8 b9 b10 hb6
  go_wp2_with fail
  refine (rOf_c (-7) 2 _ g (by omega) (by omega) (by omega) (by omega) EGG.out).mono ?_
  rintro e w11 ⟨A7, c7, B7, d7, rfl, r7, q7, b7⟩
  go_wp2_with fail
  refine (RRound_c _ A7 B7 (limbs g.num.natAbs) (limbs g.den) c7 d7 _ g v 2 r7.lim q7.lim zg.1 zg.2 (by omega) (by omega) (rv_canon g) S3.out).mono ?_
  rintro e w12 ⟨A8, c8, rfl, r8, b8⟩
  go_wp2_with fail
  refine (rFromInt_n (-4) v _ (by omega) (by omega) EV.out).mono ?_
  rintro e w13 ⟨A9, c9, rfl, r9, b9⟩
  go_wp2_with fail
  refine (rIEq_c v A8 A9 c8 c9 _ (r8.lim.below b9) r9.lim (by omega)).mono ?_
  rintro e w14 ⟨rfl, b10⟩
  have hb14 := hb10.trans ((b7.trans ((b8.trans ((b9.trans (b10.mono b9.size)).mono b8.size)).mono b7.size)).mono hb10.size)
  clear r7 q7 r8 r9 b7 b8 b9 b10 hb10
  go_wp2_with fail
  refine (rOf_c (-1) 3 _ k (by omega) (by omega) (by omega) (by omega) EK.out).mono ?_
  rintro e w15 ⟨A7, c7, B7, d7, rfl, r7, q7, b7⟩
  go_wp2_with fail
  refine (RFloor_c _ A7 B7 (limbs k.num.natAbs) (limbs k.den) c7 d7 _ k x 2 r7.lim q7.lim zk.1 zk.2 (by omega) (by omega) (rv_canon k) S4.out).mono ?_
  rintro e w16 ⟨A8, c8, rfl, r8, b8⟩
  go_wp2_with fail
  refine (rFromInt_n (-1) x _ (by omega) (by omega) EX.out).mono ?_
  rintro e w17 ⟨A9, c9, rfl, r9, b9⟩
  go_wp2_with fail
  refine (rIEq_c x A8 A9 c8 c9 _ (r8.lim.below b9) r9.lim (by omega)).mono ?_
  rintro e w18 ⟨rfl, b10⟩
  have hb18 := hb14.trans ((b7.trans ((b8.trans ((b9.trans (b10.mono b9.size)).mono b8.size)).mono b7.size)).mono hb14.size)
  clear r7 q7 r8 r9 b7 b8 b9 b10 hb14
  go_wp2_with fail
  refine (RSize_c false none none [] [] 0 0 _ _ 1 2 (Lim.nil _ _) (Lim.nil _ _) (by decide) (by decide) (by omega) (by omega) rfl S5.out).mono ?_
  rintro e w19 ⟨rfl, b19⟩
  go_wp2_with fail
  go_ret
  exact ⟨rfl, hb18.trans (b19.mono hb18.size)⟩

/- Contracts of rational.Neg, Inv; FromInt of reference 03. -/

theorem RatAt.int {w : World} {N : Nat} {b : Bool} {s t : Value} (h : RatAt w N b s t) : IntAt w N b s := ⟨h.c0, h.c1, h.f0, h.f1⟩
set_option maxRecDepth 100000 in
set_option maxHeartbeats 1000000 in
theorem RNeg_c (p : Bool) (A B : Option Addr) (xs ys : List Nat) (c d : Nat) (w : World) (r t : Rat) (K : Nat) (ha : Lim w A c xs) (hb : Lim w B d ys) (hs : xs.length ≤ K) (ht : ys.length ≤ K) (h1 : 1 ≤ K) (hK : K ≤ 70368744177660) (hr : rv p xs ys = r) (hn : -r = t) :
    Calls Try.prog 22 #[.agg #[.bool p, .slice A xs.length c, .slice B ys.length d]] w (RetRat w t) := by
  obtain ⟨W, hW, hbW, hsz, i1, i2⟩ := rbox1r w p (.slice A xs.length c) (.slice B ys.length d)
  have j1 := i1.lt
  have j2 := i2.lt
  obtain ⟨x0, x1, x2, _, _, _⟩ := id i1
  have zn : (limbs r.num.natAbs).length ≤ K := by rw [← hr]; exact rv_num_sz ha.lb hs
  have e1 : -r.num = t.num := by rw [← hn, Rat.neg_num]
  have e2 : t.den = r.den := by rw [← hn, Rat.neg_den]
  obtain ⟨N, eN⟩ : ∃ N, t.num = N := ⟨_, rfl⟩
  have HW := Lib.hid hW
  have HR := Lib.hid hr
  have E1 := Lib.hid (e1.trans eN)
  have E2 := Lib.hid e2
  have EN := Lib.hid eN
  clear hW hsz hr hn e1 e2 eN
  replace ha := ha.below hbW
  replace hb := hb.below hbW
  go_enter Try.func22, Try.ntmps22
  go_wp2_with fail
  rw [HW.out]
  refine (RNorm_c p A B xs ys c d _ r K ha hb hs ht h1 hK HR.out).mono ?_
  rintro e w1 ⟨A1, c1, B1, d1, rfl, r1, r2, s1⟩
  have i3 := RatAt.new w1 (decide (r.num < 0)) (.slice A1 (limbs r.num.natAbs).length c1) (.slice B1 (limbs r.den).length d1)
  have bo := bel1 w1 (.cells #[.bool (decide (r.num < 0)), .slice A1 (limbs r.num.natAbs).length c1, .slice B1 (limbs r.den).length d1] 26)
  obtain ⟨w2, hw2⟩ : ∃ w2, w1.alloc (.cells #[.bool (decide (r.num < 0)), .slice A1 (limbs r.num.natAbs).length c1, .slice B1 (limbs r.den).length d1] 26) = w2 := ⟨_, rfl⟩
  rw [hw2] at i3 bo
  have jw1 : w.heap.size + 1 < w1.heap.size := Nat.lt_of_lt_of_le j2 s1.size
  have b02 := s1.trans (bo.mono s1.size)
  have l1 := r1.lim.below bo
  have o2 := (r2.below bo).mono (lo' := w.heap.size) hbW.size
  have k2 := i2.keep b02
  have hb2 := hbW.trans (b02.mono hbW.size)
  clear x0 x1 x2 r1 r2 s1 bo b02 hbW i1 i2 ha hb
  obtain ⟨y0, y1, y2, y3, y4, y5⟩ := id i3
  have m3 := i3.lt
  go_wp2_with fail
  refine (INeg_n _ A1 (limbs r.num.natAbs) c1 _ r.num N K l1 zn (iv_canon r.num) E1.out (by omega)).mono ?_
  rintro e w3 ⟨A4, c4, rfl, r4, b3⟩
  clear hw2 y0 y1 y2 y3 y4 y5
  have f3 := i3.keep b3
  have f2 := k2.keep b3
  have p2 := o2.below b3
  have p4 := r4.mono (lo' := w.heap.size) hb2.size
  have hb3 := hb2.trans (b3.mono hb2.size)
  obtain ⟨y0, y1, y2, y3, y4, y5⟩ := id f3
  obtain ⟨z0, z1, z2, z3, z4, z5⟩ := id f2
  have m3' := f3.lt
  have m2' := f2.lt
  have n23 : w.heap.size + 1 ≠ w1.heap.size := by omega
  have v2 := (f2.far1 (M := w1.heap.size) (i := 0) n23 (.bool (decide (N < 0)))).far1 (M := w1.heap.size) (i := 1) n23 (.slice A4 (limbs N.natAbs).length c4)
  have q4 := p4.put f3.int (decide (N < 0)) (.slice A4 (limbs N.natAbs).length c4)
  have q2 := p2.put f3.int (decide (N < 0)) (.slice A4 (limbs N.natAbs).length c4)
  have hb4 := below_put2 hb3 (show w.heap.size ≤ w1.heap.size by omega) (.bool (decide (N < 0))) (.slice A4 (limbs N.natAbs).length c4)
  have hret := ret_rat (w := w) (r := t) v2 (by omega) (by rw [EN.out]; exact q4) (by rw [E2.out]; exact q2) hb4
  rw [EN.out, E2.out] at hret
  have HRET := Lib.hid hret
  clear hret q4 q2 v2 p2 p4 hb4 hb3
  go_wp2_with fail
  exact bodyPost_ret (v := .agg #[.bool (decide (N < 0)), .slice A4 (limbs N.natAbs).length c4, .slice B1 (limbs r.den).length d1]) (by simp [results, Try.results22, go_sem, z0, z1, z2]) rfl HRET.out

set_option maxRecDepth 100000 in
set_option maxHeartbeats 1000000 in
theorem rRFromInt_c (n : Int) (w : World) (r : Rat) (h1 : -9223372036854775808 ≤ n) (h2 : n ≤ 9223372036854775807) (hr : mkRat n 1 = r) :
    Calls Try.prog 76 #[.int .i64 n] w (RetRat w r) := by
  obtain ⟨W, hW, hbW, hsz, i0⟩ := rbox0 w
  have j0 := i0.lt
  obtain ⟨n', en⟩ : ∃ x, n = x := ⟨_, rfl⟩
  obtain ⟨o, eo⟩ : ∃ x : Int, 1 = x := ⟨_, rfl⟩
  have zn : (limbs n'.natAbs).length ≤ 2 := by rw [← en]; exact limbs_len2 (by rw [show Ba * Ba = 18446744073709551616 by decide]; omega)
  have zo : (limbs o.natAbs).length ≤ 2 := by rw [← eo]; exact limbs_len2 (by decide)
  have HW := Lib.hid hW
  have HR := Lib.hid (show mkRat n' 1 = r by rw [← en]; exact hr)
  have EN := Lib.hid en
  have EO := Lib.hid eo
  clear hW hsz hr en eo
  go_enter Try.func76, Try.ntmps76
  go_wp2_with fail
  rw [HW.out]
  refine (rFromInt_n n n' _ h1 h2 EN.out).mono ?_
  rintro e w1 ⟨A1, c1, rfl, r1, b1⟩
  go_wp2_with fail
  refine (rFromInt_n 1 o _ (by omega) (by omega) EO.out).mono ?_
  rintro e w2 ⟨A2, c2, rfl, r2, b2⟩
  go_wp2_with fail
  refine (rMake_c _ _ A1 A2 (limbs n'.natAbs) (limbs o.natAbs) c1 c2 _ n' 1 r 2 (r1.lim.below b2) r2.lim zn zo (by omega) (iv_canon n') (by rw [iv_canon]; exact EO.out.symm) HR.out).mono ?_
  rintro e w3 ⟨A3, c3, B3, d3, rfl, q1, q2, b3⟩
  have b02 := b1.trans (b2.mono b1.size)
  have b03 := b02.trans (b3.mono b02.size)
  have t0 := i0.keep b03
  obtain ⟨y0, y1, y2, y3, y4, y5⟩ := id t0
  have HRET := Lib.hid (ret_move (W := w2) t0 (Nat.le_refl _) q1 q2 (Nat.le_trans hbW.size b02.size) (hbW.trans (b03.mono hbW.size)))
  clear r1 r2 q1 q2 b1 b2 b3 b02 b03 t0
  go_wp2_with fail
  exact bodyPost_ret (v := .agg #[.bool (decide (r.num < 0)), .slice A3 (limbs r.num.natAbs).length c3, .slice B3 (limbs r.den).length d3]) (by simp [results, Try.results76, go_sem, y0, y1, y2]) rfl HRET.out

/-- a rational number and true -/
def RetRatY (w : World) (r : Rat) (e : Ending) (w' : World) : Prop :=
  ∃ A c B d, e = .returned (.tuple #[.agg #[.bool (decide (r.num < 0)), .slice A (limbs r.num.natAbs).length c, .slice B (limbs r.den).length d], .bool true]) ∧ Own w.heap.size w' A c (limbs r.num.natAbs) ∧ Own w.heap.size w' B d (limbs r.den) ∧ Below w.heap.size w w'
def RetRatN (w : World) (e : Ending) (w' : World) : Prop := e = .returned (.tuple #[.agg #[.bool false, .slice none 0 0, .slice none 0 0], .bool false]) ∧ Below w.heap.size w w'
theorem inv_parts {r : Rat} (h : r ≠ 0) : decide (r⁻¹.num < 0) = decide (r.num < 0) ∧ r⁻¹.num.natAbs = r.den ∧ r⁻¹.den = r.num.natAbs := by
  have hn : r.num ≠ 0 := fun e => h (Rat.num_eq_zero.1 e)
  have hd : 0 < r.den := Nat.pos_of_ne_zero r.den_nz
  rw [Rat.num_inv, Rat.den_inv, if_neg hn]
  rcases Int.lt_or_gt_of_ne hn with h1 | h1
  · rw [Int.sign_eq_neg_one_of_neg h1]
    refine ⟨?_, by omega, rfl⟩
    rw [decide_eq_true h1, decide_eq_true (by omega)]
  · rw [Int.sign_eq_one_of_pos h1]
    refine ⟨?_, by omega, rfl⟩
    rw [decide_eq_false (by omega), decide_eq_false (by omega)]
set_option maxRecDepth 100000 in
set_option maxHeartbeats 1000000 in
theorem RInvN_c (p : Bool) (A B : Option Addr) (xs ys : List Nat) (c d : Nat) (w : World) (r : Rat) (ha : Lim w A c xs) (hb : Lim w B d ys) (hr : rv p xs ys = r) (h0 : r = 0) :
    Calls Try.prog 19 #[.agg #[.bool p, .slice A xs.length c, .slice B ys.length d]] w (RetRatN w) := by
  obtain ⟨W, hW, hbW, hsz, i1, i2⟩ := rbox1r w p (.slice A xs.length c) (.slice B ys.length d)
  have j1 := i1.lt
  have j2 := i2.lt
  obtain ⟨x0, x1, x2, _, _, _⟩ := id i1
  have HW := Lib.hid hW
  have HR := Lib.hid hr
  have hsg : sgn r.num = 0 := sgn_zero.2 h0
  clear hW hsz hr h0
  replace ha := ha.below hbW
  replace hb := hb.below hbW
  go_enter Try.func19, Try.ntmps19
  go_wp2_with fail
  rw [HW.out]
  refine (RSign_c p A B xs ys c d _ r 0 ha hb HR.out hsg).mono ?_
  rintro e w1 ⟨rfl, b1⟩
  have t2 := i2.keep b1
  obtain ⟨y0, y1, y2, y3, y4, y5⟩ := id t2
  have hfin := below_put3 (hbW.trans (b1.mono hbW.size)) (show w.heap.size ≤ w.heap.size + 1 by omega) (.bool false) (.slice none 0 0) (.slice none 0 0)
  go_wp2_with fail
  exact bodyPost_ret (v := .tuple #[.agg #[.bool false, .slice none 0 0, .slice none 0 0], .bool false]) (by simp [results, Try.results19, go_sem, y0, y1, y2]) rfl ⟨rfl, hfin⟩
set_option maxRecDepth 100000 in
set_option maxHeartbeats 1000000 in
theorem RInvY_c (p : Bool) (A B : Option Addr) (xs ys : List Nat) (c d : Nat) (w : World) (r t : Rat) (K : Nat) (ha : Lim w A c xs) (hb : Lim w B d ys) (hs : xs.length ≤ K) (ht : ys.length ≤ K) (h1 : 1 ≤ K) (hK : K ≤ 70368744177660) (hr : rv p xs ys = r) (h0 : r ≠ 0) (hi : r⁻¹ = t) :
    Calls Try.prog 19 #[.agg #[.bool p, .slice A xs.length c, .slice B ys.length d]] w (RetRatY w t) := by
  obtain ⟨W, hW, hbW, hsz, i1, i2⟩ := rbox1r w p (.slice A xs.length c) (.slice B ys.length d)
  have j1 := i1.lt
  have j2 := i2.lt
  obtain ⟨x0, x1, x2, _, _, _⟩ := id i1
  obtain ⟨a1, a2, a3⟩ := inv_parts h0
  rw [hi] at a1 a2 a3
  obtain ⟨sg, esg⟩ : ∃ s, sgn r.num = s := ⟨_, rfl⟩
  have hsg : ¬ sg = 0 := fun e => h0 (sgn_zero.1 (esg.trans e))
  have HW := Lib.hid hW
  have HR := Lib.hid hr
  have A1' := Lib.hid a1
  have A2' := Lib.hid a2
  have A3' := Lib.hid a3
  have ESG := Lib.hid esg
  clear hW hsz hr h0 hi a1 a2 a3 esg
  replace ha := ha.below hbW
  replace hb := hb.below hbW
  go_enter Try.func19, Try.ntmps19
  go_wp2_with fail
  rw [HW.out]
  refine (RSign_c p A B xs ys c d _ r sg ha hb HR.out ESG.out).mono ?_
  rintro e w1 ⟨rfl, b1⟩
  clear x0 x1 x2
  obtain ⟨x0, x1, x2, _, _, _⟩ := i1.keep b1
  go_wp2_with fail
  refine (RNorm_c p A B xs ys c d _ r K (ha.below b1) (hb.below b1) hs ht h1 hK HR.out).mono ?_
  rintro e w2 ⟨A2, c2, B2, d2, rfl, r1, r2, b2⟩
  have i4 := RatAt.new w2 (decide (r.num < 0)) (.slice A2 (limbs r.num.natAbs).length c2) (.slice B2 (limbs r.den).length d2)
  have bo := bel1 w2 (.cells #[.bool (decide (r.num < 0)), .slice A2 (limbs r.num.natAbs).length c2, .slice B2 (limbs r.den).length d2] 26)
  obtain ⟨w3, hw3⟩ : ∃ w3, w2.alloc (.cells #[.bool (decide (r.num < 0)), .slice A2 (limbs r.num.natAbs).length c2, .slice B2 (limbs r.den).length d2] 26) = w3 := ⟨_, rfl⟩
  rw [hw3] at i4 bo
  have b02 := b1.trans (b2.mono b1.size)
  have b03 := b02.trans (bo.mono b02.size)
  have t2 := i2.keep b03
  have o1 := (r1.below bo).mono (lo' := w.heap.size) (Nat.le_trans hbW.size b1.size)
  have o2 := (r2.below bo).mono (lo' := w.heap.size) (Nat.le_trans hbW.size b1.size)
  have hb3 := hbW.trans (b03.mono hbW.size)
  obtain ⟨y0, y1, y2, y3, y4, y5⟩ := id t2
  obtain ⟨z0, z1, z2, _, _, _⟩ := id i4
  have m2 := t2.lt
  have m4 := i4.lt
  have q1 := o1.put3 t2 (decide (r.num < 0)) (.slice B2 (limbs r.den).length d2) (.slice A2 (limbs r.num.natAbs).length c2)
  have q2 := o2.put3 t2 (decide (r.num < 0)) (.slice B2 (limbs r.den).length d2) (.slice A2 (limbs r.num.natAbs).length c2)
  have hb4 := below_put3 hb3 (show w.heap.size ≤ w.heap.size + 1 by omega) (.bool (decide (r.num < 0))) (.slice B2 (limbs r.den).length d2) (.slice A2 (limbs r.num.natAbs).length c2)
  have HRET := Lib.hid (show RetRatY w t (.returned (.tuple #[.agg #[.bool (decide (r.num < 0)), .slice B2 (limbs r.den).length d2, .slice A2 (limbs r.num.natAbs).length c2], .bool true])) _ from ⟨B2, d2, A2, c2, by rw [A1'.out, A2'.out, A3'.out], by rw [A2'.out]; exact q2, by rw [A3'.out]; exact q1, hb4⟩)
  clear q1 q2 hb4 hb3 o1 o2 r1 r2 b1 b2 bo b02 b03 t2 i4
  go_wp2_with fail
  exact bodyPost_ret (v := .tuple #[.agg #[.bool (decide (r.num < 0)), .slice B2 (limbs r.den).length d2, .slice A2 (limbs r.num.natAbs).length c2], .bool true]) (by simp [results, Try.results19, go_sem, y0, y1, y2]) rfl HRET.out

end Go.Proofs.Ytaeidephegnkdaa
