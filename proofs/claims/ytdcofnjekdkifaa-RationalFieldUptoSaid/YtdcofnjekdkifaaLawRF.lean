/- The walk of the statement RationalField: it returns true. -/
import Derived.Test.YtdcofnjekdkifaaMW
namespace Go.Proofs.Ytdcofnjekdkifaa
open Go.RowKit Gm


set_option maxRecDepth 100000 in
set_option maxHeartbeats 8000000 in
theorem rfield_v {w : World} {ax ay_ az : Value} {ra : Rat} {bx by_ bz : Value} {rb : Rat} {cx cy_ cz : Value} {rc : Rat} (ha : IsRat w ax ay_ az ra 1048576) (hb : IsRat w bx by_ bz rb 1048576) (hc : IsRat w cx cy_ cz rc 1048576) : Calls Try.prog 4 #[.agg #[ax, ay_, az], .agg #[bx, by_, bz], .agg #[cx, cy_, cz]] w (RetB w true) := by
  obtain ⟨W, hW, hbW, i0, i1, i2⟩ : ∃ W, ((w.alloc (.cells #[ax, ay_, az] 26)).alloc (.cells #[bx, by_, bz] 26)).alloc (.cells #[cx, cy_, cz] 26) = W ∧ Below w.heap.size w W ∧ Bx3 W (w.heap.size) ax ay_ az ∧ Bx3 W (w.heap.size + 1) bx by_ bz ∧ Bx3 W (w.heap.size + 1 + 1) cx cy_ cz := ⟨_, rfl, (((Below.refl _ _).alloc (by simp <;> omega) _).alloc (by simp <;> omega) _).alloc (by simp <;> omega) _, by refine ⟨?_, ?_, ?_, ?_, ?_, ?_⟩ <;> go_simp, by refine ⟨?_, ?_, ?_, ?_, ?_, ?_⟩ <;> go_simp, by refine ⟨?_, ?_, ?_, ?_, ?_, ?_⟩ <;> go_simp⟩
  have ji0 := i0.lt; have x00 := i0.c0; have x01 := i0.c1; have x02 := i0.c2
  have ji1 := i1.lt; have x10 := i1.c0; have x11 := i1.c1; have x12 := i1.c2
  have ji2 := i2.lt; have x20 := i2.c0; have x21 := i2.c1; have x22 := i2.c2
  have HW := Lib.hid hW
  clear hW
  replace ha := ha.keep hbW
  replace hb := hb.keep hbW
  replace hc := hc.keep hbW
  have za := ha.sz
  have zb := hb.sz
  have zc := hc.sz
  obtain ⟨s, es⟩ : ∃ x, ra + rb = x := ⟨_, rfl⟩
  have zs : Sz s 2097153 := (za.mono (by decide)).add (k := 1048576) (zb.mono (by decide)) es (by decide)
  obtain ⟨t, et⟩ : ∃ x, rb + rc = x := ⟨_, rfl⟩
  have zt : Sz t 2097153 := (zb.mono (by decide)).add (k := 1048576) (zc.mono (by decide)) et (by decide)
  obtain ⟨u, eu⟩ : ∃ x, s + rc = x := ⟨_, rfl⟩
  have zu : Sz u 4194307 := (zs.mono (by decide)).add (k := 2097153) (zc.mono (by decide)) eu (by decide)
  obtain ⟨m, em⟩ : ∃ x, ra * rb = x := ⟨_, rfl⟩
  have zm : Sz m 2097153 := (za.mono (by decide)).mul (k := 1048576) (zb.mono (by decide)) em (by decide)
  obtain ⟨n, en⟩ : ∃ x, rb * rc = x := ⟨_, rfl⟩
  have zn : Sz n 2097153 := (zb.mono (by decide)).mul (k := 1048576) (zc.mono (by decide)) en (by decide)
  obtain ⟨o, eo⟩ : ∃ x, m * rc = x := ⟨_, rfl⟩
  have zo : Sz o 4194307 := (zm.mono (by decide)).mul (k := 2097153) (zc.mono (by decide)) eo (by decide)
  obtain ⟨x, ex⟩ : ∃ x, ra * t = x := ⟨_, rfl⟩
  have zx : Sz x 4194307 := (za.mono (by decide)).mul (k := 2097153) (zt.mono (by decide)) ex (by decide)
  obtain ⟨y, ey⟩ : ∃ x, ra * rc = x := ⟨_, rfl⟩
  have zy : Sz y 2097153 := (za.mono (by decide)).mul (k := 1048576) (zc.mono (by decide)) ey (by decide)
  obtain ⟨g, eg⟩ : ∃ x, -ra = x := ⟨_, rfl⟩
  have zg : Sz g 1048576 := za.neg eg
  obtain ⟨v, ev⟩ : ∃ x, ra⁻¹ = x := ⟨_, rfl⟩
  have zv : Sz v 1048576 := za.inv ev
  obtain ⟨sg, esg⟩ : ∃ x, sgn ra.num = x := ⟨_, rfl⟩
  have eu2 : ra + t = u := by rw [← eu, ← es, ← et, Rat.add_assoc]
  have eo2 : ra * n = o := by rw [← eo, ← em, ← en, Rat.mul_assoc]
  have ex2 : m + y = x := by rw [← ex, ← em, ← ey, ← et, Rat.mul_add]
  have eg2 : ra + g = 0 := by rw [← eg]; exact Rat.add_neg_cancel _
  have z0 : Sz 0 1048576 := sz_zero (by decide)
  have z1 : Sz 1 1048576 := sz_one (by decide)
  have ES := Lib.hid es
  clear es
  have ET := Lib.hid et
  clear et
  have EU := Lib.hid eu
  clear eu
  have EM := Lib.hid em
  clear em
  have EN := Lib.hid en
  clear en
  have EO := Lib.hid eo
  clear eo
  have EX := Lib.hid ex
  clear ex
  have EY := Lib.hid ey
  clear ey
  have EG := Lib.hid eg
  clear eg
  have EV := Lib.hid ev
  clear ev
  have ESG := Lib.hid esg
  clear esg
  have EU2 := Lib.hid eu2
  clear eu2
  have EO2 := Lib.hid eo2
  clear eo2
  have EX2 := Lib.hid ex2
  clear ex2
  have EG2 := Lib.hid eg2
  clear eg2
  have tk0 : True := trivial
  have tk1 : True := trivial
  have tk2 : True := trivial
  have tk3 : True := trivial
  have tk4 : True := trivial
  have tk5 : True := trivial
  have tk6 : True := trivial
  have tk7 : True := trivial
  have tk8 : True := trivial
  have tk9 : True := trivial
  have tk10 : True := trivial
  have tk11 : True := trivial
  have tk12 : True := trivial
  have tk13 : True := trivial
  have tk14 : True := trivial
  have tk15 : True := trivial
  have tk16 : True := trivial
  go_enter Try.func4, Try.ntmps4
  go_wp2_with fail
  rw [HW.out]
  have hBel : Below W.heap.size W W.drew := (Below.refl _ _).drew
  go_region_held3 (fun w' => w'.cell? ⟨w.heap.size, 0, none⟩ = some ax ∧ w'.cell? ⟨w.heap.size, 1, none⟩ = some ay_ ∧ w'.cell? ⟨w.heap.size, 2, none⟩ = some az ∧ w'.cell? ⟨w.heap.size + 1, 0, none⟩ = some bx ∧ w'.cell? ⟨w.heap.size + 1, 1, none⟩ = some by_ ∧ w'.cell? ⟨w.heap.size + 1, 2, none⟩ = some bz ∧ w'.cell? ⟨w.heap.size + 1 + 1, 0, none⟩ = some cx ∧ w'.cell? ⟨w.heap.size + 1 + 1, 1, none⟩ = some cy_ ∧ w'.cell? ⟨w.heap.size + 1 + 1, 2, none⟩ = some cz)
    (first | (with_reducible exact ⟨cellB hBel ji0 x00, cellB hBel ji0 x01, cellB hBel ji0 x02, cellB hBel ji1 x10, cellB hBel ji1 x11, cellB hBel ji1 x12, cellB hBel ji2 x20, cellB hBel ji2 x21, cellB hBel ji2 x22⟩) | go_keep)
    (first
      | (go_at_call 11; have _t := tk0; clear tk0; refine (awake3_c _).mono ?_; rintro e v0 ⟨rfl, g0⟩; replace hBel := hBel.trans (g0.mono hBel.size))
      | (go_at_call 15; have _t := tk1; clear tk1; refine (RAdd_v (K := 8388608) ((ha.keep hBel).mono (by decide)) ((hb.keep hBel).mono (by decide)) (by decide) ES.out).mono ?_; rintro e v1 ⟨b1, s1, t1, rfl, o1, g1⟩; replace hBel := hBel.trans (g1.mono hBel.size))
      | (go_at_call 15; have _t := tk2; clear tk2; refine (RAdd_v (K := 8388608) (o1.is (zs.mono (by decide))) ((hc.keep hBel).mono (by decide)) (by decide) EU.out).mono ?_; rintro e v2 ⟨b2, s2, t2, rfl, o2, g2⟩; replace o1 := o1.keep g2; replace hBel := hBel.trans (g2.mono hBel.size))
      | (go_at_call 15; have _t := tk3; clear tk3; refine (RAdd_v (K := 8388608) ((hb.keep hBel).mono (by decide)) ((hc.keep hBel).mono (by decide)) (by decide) ET.out).mono ?_; rintro e v3 ⟨b3, s3, t3, rfl, o3, g3⟩; replace o1 := o1.keep g3; replace o2 := o2.keep g3; replace hBel := hBel.trans (g3.mono hBel.size))
      | (go_at_call 15; have _t := tk4; clear tk4; refine (RAdd_v (K := 8388608) ((ha.keep hBel).mono (by decide)) (o3.is (zt.mono (by decide))) (by decide) EU2.out).mono ?_; rintro e v4 ⟨b4, s4, t4, rfl, o4, g4⟩; replace o1 := o1.keep g4; replace o2 := o2.keep g4; replace o3 := o3.keep g4; replace hBel := hBel.trans (g4.mono hBel.size))
      | (go_at_call 13; have _t := tk5; clear tk5; refine (rREq_v (K := 8388608) o2 o4 (zu.mono (by decide)) (zu.mono (by decide)) (by decide) (decide_eq_true rfl)).mono ?_; rintro e v5 ⟨rfl, g5⟩; replace o1 := o1.keep g5; replace o2 := o2.keep g5; replace o3 := o3.keep g5; replace o4 := o4.keep g5; replace hBel := hBel.trans (g5.mono hBel.size))
      | (go_at_call 16; have _t := tk6; clear tk6; refine (RMul_v (K := 8388608) ((ha.keep hBel).mono (by decide)) ((hb.keep hBel).mono (by decide)) (by decide) EM.out).mono ?_; rintro e v6 ⟨b6, s6, t6, rfl, o6, g6⟩; replace o1 := o1.keep g6; replace o2 := o2.keep g6; replace o3 := o3.keep g6; replace o4 := o4.keep g6; replace hBel := hBel.trans (g6.mono hBel.size))
      | (go_at_call 16; have _t := tk7; clear tk7; refine (RMul_v (K := 8388608) (o6.is (zm.mono (by decide))) ((hc.keep hBel).mono (by decide)) (by decide) EO.out).mono ?_; rintro e v7 ⟨b7, s7, t7, rfl, o7, g7⟩; replace o1 := o1.keep g7; replace o2 := o2.keep g7; replace o3 := o3.keep g7; replace o4 := o4.keep g7; replace o6 := o6.keep g7; replace hBel := hBel.trans (g7.mono hBel.size))
      | (go_at_call 16; have _t := tk8; clear tk8; refine (RMul_v (K := 8388608) ((hb.keep hBel).mono (by decide)) ((hc.keep hBel).mono (by decide)) (by decide) EN.out).mono ?_; rintro e v8 ⟨b8, s8, t8, rfl, o8, g8⟩; replace o1 := o1.keep g8; replace o2 := o2.keep g8; replace o3 := o3.keep g8; replace o4 := o4.keep g8; replace o6 := o6.keep g8; replace o7 := o7.keep g8; replace hBel := hBel.trans (g8.mono hBel.size))
      | (go_at_call 16; have _t := tk9; clear tk9; refine (RMul_v (K := 8388608) ((ha.keep hBel).mono (by decide)) (o8.is (zn.mono (by decide))) (by decide) EO2.out).mono ?_; rintro e v9 ⟨b9, s9, t9, rfl, o9, g9⟩; replace o1 := o1.keep g9; replace o2 := o2.keep g9; replace o3 := o3.keep g9; replace o4 := o4.keep g9; replace o6 := o6.keep g9; replace o7 := o7.keep g9; replace o8 := o8.keep g9; replace hBel := hBel.trans (g9.mono hBel.size))
      | (go_at_call 13; have _t := tk10; clear tk10; refine (rREq_v (K := 8388608) o7 o9 (zo.mono (by decide)) (zo.mono (by decide)) (by decide) (decide_eq_true rfl)).mono ?_; rintro e v10 ⟨rfl, g10⟩; replace o1 := o1.keep g10; replace o2 := o2.keep g10; replace o3 := o3.keep g10; replace o4 := o4.keep g10; replace o6 := o6.keep g10; replace o7 := o7.keep g10; replace o8 := o8.keep g10; replace o9 := o9.keep g10; replace hBel := hBel.trans (g10.mono hBel.size))
      | (go_at_call 15; have _t := tk11; clear tk11; refine (RAdd_v (K := 8388608) ((hb.keep hBel).mono (by decide)) ((hc.keep hBel).mono (by decide)) (by decide) ET.out).mono ?_; rintro e v11 ⟨b11, s11, t11, rfl, o11, g11⟩; replace o1 := o1.keep g11; replace o2 := o2.keep g11; replace o3 := o3.keep g11; replace o4 := o4.keep g11; replace o6 := o6.keep g11; replace o7 := o7.keep g11; replace o8 := o8.keep g11; replace o9 := o9.keep g11; replace hBel := hBel.trans (g11.mono hBel.size))
      | (go_at_call 16; have _t := tk12; clear tk12; refine (RMul_v (K := 8388608) ((ha.keep hBel).mono (by decide)) (o11.is (zt.mono (by decide))) (by decide) EX.out).mono ?_; rintro e v12 ⟨b12, s12, t12, rfl, o12, g12⟩; replace o1 := o1.keep g12; replace o2 := o2.keep g12; replace o3 := o3.keep g12; replace o4 := o4.keep g12; replace o6 := o6.keep g12; replace o7 := o7.keep g12; replace o8 := o8.keep g12; replace o9 := o9.keep g12; replace o11 := o11.keep g12; replace hBel := hBel.trans (g12.mono hBel.size))
      | (go_at_call 16; have _t := tk13; clear tk13; refine (RMul_v (K := 8388608) ((ha.keep hBel).mono (by decide)) ((hb.keep hBel).mono (by decide)) (by decide) EM.out).mono ?_; rintro e v13 ⟨b13, s13, t13, rfl, o13, g13⟩; replace o1 := o1.keep g13; replace o2 := o2.keep g13; replace o3 := o3.keep g13; replace o4 := o4.keep g13; replace o6 := o6.keep g13; replace o7 := o7.keep g13; replace o8 := o8.keep g13; replace o9 := o9.keep g13; replace o11 := o11.keep g13; replace o12 := o12.keep g13; replace hBel := hBel.trans (g13.mono hBel.size))
      | (go_at_call 16; have _t := tk14; clear tk14; refine (RMul_v (K := 8388608) ((ha.keep hBel).mono (by decide)) ((hc.keep hBel).mono (by decide)) (by decide) EY.out).mono ?_; rintro e v14 ⟨b14, s14, t14, rfl, o14, g14⟩; replace o1 := o1.keep g14; replace o2 := o2.keep g14; replace o3 := o3.keep g14; replace o4 := o4.keep g14; replace o6 := o6.keep g14; replace o7 := o7.keep g14; replace o8 := o8.keep g14; replace o9 := o9.keep g14; replace o11 := o11.keep g14; replace o12 := o12.keep g14; replace o13 := o13.keep g14; replace hBel := hBel.trans (g14.mono hBel.size))
      | (go_at_call 15; have _t := tk15; clear tk15; refine (RAdd_v (K := 8388608) (o13.is (zm.mono (by decide))) (o14.is (zy.mono (by decide))) (by decide) EX2.out).mono ?_; rintro e v15 ⟨b15, s15, t15, rfl, o15, g15⟩; replace o1 := o1.keep g15; replace o2 := o2.keep g15; replace o3 := o3.keep g15; replace o4 := o4.keep g15; replace o6 := o6.keep g15; replace o7 := o7.keep g15; replace o8 := o8.keep g15; replace o9 := o9.keep g15; replace o11 := o11.keep g15; replace o12 := o12.keep g15; replace o13 := o13.keep g15; replace o14 := o14.keep g15; replace hBel := hBel.trans (g15.mono hBel.size))
      | (go_at_call 13; have _t := tk16; clear tk16; refine (rREq_v (K := 8388608) o12 o15 (zx.mono (by decide)) (zx.mono (by decide)) (by decide) (decide_eq_true rfl)).mono ?_; rintro e v16 ⟨rfl, g16⟩; replace o1 := o1.keep g16; replace o2 := o2.keep g16; replace o3 := o3.keep g16; replace o4 := o4.keep g16; replace o6 := o6.keep g16; replace o7 := o7.keep g16; replace o8 := o8.keep g16; replace o9 := o9.keep g16; replace o11 := o11.keep g16; replace o12 := o12.keep g16; replace o13 := o13.keep g16; replace o14 := o14.keep g16; replace o15 := o15.keep g16; replace hBel := hBel.trans (g16.mono hBel.size)))
  rename_i hHeld
  clear hHeld
  replace ha := ha.keep hBel
  replace i0 := i0.keep hBel
  have hb1 := hbW.trans (hBel.mono hbW.size)
  clear hBel o1 o2 o3 o4 o6 o7 o8 o9 o11 o12 o13 o14 o15 x00 x01 x02 x10 x11 x12 x20 x21 x22 ji0 ji1 ji2
  clear g0 g1 g2 g3 g4 g5 g6 g7 g8 g9 g10 g11 g12 g13 g14 g15 g16
  clear hb hc i1 i2 zb zc zs zt zu zm zn zo zx zy ES ET EU EM EN EO EX EY EU2 EO2 EX2 hbW HW
  have ji0 := i0.lt
  have x00 := i0.c0
  have x01 := i0.c1
  have x02 := i0.c2
  by_cases h0 : ra = 0
  · have hsg : sg = 0 := by rw [← ESG.out]; exact sgn_zero.2 h0
    subst hsg
    go_wp2_with fail
    refine (RInvN_v ha h0).mono ?_
    rintro e w1 ⟨rfl, g1⟩
    have bo := bel1 w1 (.cells #[.bool false, .slice none 0 0, .slice none 0 0] 26)
    obtain ⟨w2, hw2⟩ : ∃ w2, w1.alloc (.cells #[.bool false, .slice none 0 0, .slice none 0 0] 26) = w2 := ⟨_, rfl⟩
    rw [hw2] at bo
    have HW2 := Lib.hid hw2
    clear hw2
    have b12 := g1.trans (bo.mono g1.size)
    replace ha := ha.keep b12
    replace i0 := i0.keep b12
    have hb2 := hb1.trans (b12.mono hb1.size)
    clear x00 x01 x02 ji0
    have ji0 := i0.lt
    have x00 := i0.c0
    have x01 := i0.c1
    have x02 := i0.c2
    go_wp2_with fail
    rw [HW2.out]
    have hBel : Below w2.heap.size w2 w2.drew := (Below.refl _ _).drew
    have tk20 : True := trivial
    have tk21 : True := trivial
    have tk22 : True := trivial
    have tk23 : True := trivial
    have tk24 : True := trivial
    have u00 := cellB hBel ji0 x00
    have u01 := cellB hBel ji0 x01
    have u02 := cellB hBel ji0 x02
    go_region_with (first
      | (go_at_call 18; have _t := tk20; clear tk20; refine (RNeg_v (K := 8388608) ((ha.keep hBel).mono (by decide)) (by decide) EG.out).mono ?_; rintro e v20 ⟨b20, s20, t20, rfl, o20, g20⟩; replace hBel := hBel.trans (g20.mono hBel.size); replace u00 := cellB hBel ji0 x00; replace u01 := cellB hBel ji0 x01; replace u02 := cellB hBel ji0 x02)
      | (go_at_call 15; have _t := tk21; clear tk21; refine (RAdd_v (K := 8388608) ((ha.keep hBel).mono (by decide)) (o20.is (zg.mono (by decide))) (by decide) EG2.out).mono ?_; rintro e v21 ⟨b21, s21, t21, rfl, o21, g21⟩; replace o20 := o20.keep g21; replace hBel := hBel.trans (g21.mono hBel.size); replace u00 := cellB hBel ji0 x00; replace u01 := cellB hBel ji0 x01; replace u02 := cellB hBel ji0 x02)
      | (go_at_call 19; have _t := tk22; clear tk22; refine (rZero_v).mono ?_; rintro e v22 ⟨b22, s22, t22, rfl, o22, g22⟩; replace o20 := o20.keep g22; replace o21 := o21.keep g22; replace hBel := hBel.trans (g22.mono hBel.size); replace u00 := cellB hBel ji0 x00; replace u01 := cellB hBel ji0 x01; replace u02 := cellB hBel ji0 x02)
      | (go_at_call 13; have _t := tk23; clear tk23; refine (rREq_v (K := 8388608) o21 o22 (z0.mono (by decide)) (z0.mono (by decide)) (by decide) (decide_eq_true rfl)).mono ?_; rintro e v23 ⟨rfl, g23⟩; replace o20 := o20.keep g23; replace o21 := o21.keep g23; replace o22 := o22.keep g23; replace hBel := hBel.trans (g23.mono hBel.size); replace u00 := cellB hBel ji0 x00; replace u01 := cellB hBel ji0 x01; replace u02 := cellB hBel ji0 x02)
      | (go_at_call 20; have _t := tk24; clear tk24; refine (RSign_v (K := 8388608) ((ha.keep hBel).mono (by decide)) (by decide) ESG.out).mono ?_; rintro e v24 ⟨rfl, g24⟩; replace o20 := o20.keep g24; replace o21 := o21.keep g24; replace o22 := o22.keep g24; replace hBel := hBel.trans (g24.mono hBel.size); replace u00 := cellB hBel ji0 x00; replace u01 := cellB hBel ji0 x01; replace u02 := cellB hBel ji0 x02))
    all_goals
      go_wp2_with fail
      go_ret
      exact ⟨rfl, hb2.trans (hBel.mono hb2.size)⟩
  · have hsg : ¬ sg = 0 := fun e => h0 (sgn_zero.1 (ESG.out.trans e))
    have hsg2 : sg = 1 ∨ sg = -1 := by
      have hb := ESG.out
      unfold sgn at hb
      split at hb
      · exact .inr hb.symm
      · split at hb
        · exact .inl hb.symm
        · exact absurd hb.symm hsg
    have ev1 : ra * v = 1 := by rw [← EV.out]; exact Rat.mul_inv_cancel _ h0
    have EV1 := Lib.hid ev1
    clear ev1 hsg
    rcases hsg2 with hsg | hsg
    all_goals subst hsg
    all_goals
      go_wp2_with fail
      refine (RInvY_v ha (by decide) h0 EV.out).mono ?_
      rintro e w1 ⟨b1, s1, t1, rfl, oi, g1⟩
      obtain ⟨q0, q1, q2⟩ := oi.st
      have i7 := Bx3.new w1 b1 s1 t1
      have bo := bel1 w1 (.cells #[b1, s1, t1] 26)
      obtain ⟨w2, hw2⟩ : ∃ w2, w1.alloc (.cells #[b1, s1, t1] 26) = w2 := ⟨_, rfl⟩
      rw [hw2] at bo i7
      have HW2 := Lib.hid hw2
      clear hw2
      have b12 := g1.trans (bo.mono g1.size)
      replace ha := ha.keep b12
      replace i0 := i0.keep b12
      replace oi := oi.keep bo
      have hb2 := hb1.trans (b12.mono hb1.size)
      clear x00 x01 x02 ji0
      have ji0 := i0.lt
      have x00 := i0.c0
      have x01 := i0.c1
      have x02 := i0.c2
      have ji7 := i7.lt
      have x70 := i7.c0
      have x71 := i7.c1
      have x72 := i7.c2
      clear h0
      go_wp2_with fail
      rw [HW2.out]
      have hBel : Below w2.heap.size w2 w2.drew := (Below.refl _ _).drew
      replace oi := oi.keep hBel
      have tk20 : True := trivial
      have tk21 : True := trivial
      have tk22 : True := trivial
      have tk23 : True := trivial
      have tk24 : True := trivial
      have tk25 : True := trivial
      have tk26 : True := trivial
      have tk27 : True := trivial
      go_region_held3 (fun w' => w'.cell? ⟨w.heap.size, 0, none⟩ = some ax ∧ w'.cell? ⟨w.heap.size, 1, none⟩ = some ay_ ∧ w'.cell? ⟨w.heap.size, 2, none⟩ = some az ∧ w'.cell? ⟨w1.heap.size, 0, none⟩ = some b1 ∧ w'.cell? ⟨w1.heap.size, 1, none⟩ = some s1 ∧ w'.cell? ⟨w1.heap.size, 2, none⟩ = some t1)
        (first | (with_reducible exact ⟨cellB hBel ji0 x00, cellB hBel ji0 x01, cellB hBel ji0 x02, cellB hBel ji7 x70, cellB hBel ji7 x71, cellB hBel ji7 x72⟩) | go_keep)
        (first
          | (go_at_call 18; have _t := tk20; clear tk20; refine (RNeg_v (K := 8388608) ((ha.keep hBel).mono (by decide)) (by decide) EG.out).mono ?_; rintro e v20 ⟨b20, s20, t20, rfl, o20, g20⟩; replace oi := oi.keep g20; replace hBel := hBel.trans (g20.mono hBel.size))
          | (go_at_call 15; have _t := tk21; clear tk21; refine (RAdd_v (K := 8388608) ((ha.keep hBel).mono (by decide)) (o20.is (zg.mono (by decide))) (by decide) EG2.out).mono ?_; rintro e v21 ⟨b21, s21, t21, rfl, o21, g21⟩; replace o20 := o20.keep g21; replace oi := oi.keep g21; replace hBel := hBel.trans (g21.mono hBel.size))
          | (go_at_call 19; have _t := tk22; clear tk22; refine (rZero_v).mono ?_; rintro e v22 ⟨b22, s22, t22, rfl, o22, g22⟩; replace o20 := o20.keep g22; replace o21 := o21.keep g22; replace oi := oi.keep g22; replace hBel := hBel.trans (g22.mono hBel.size))
          | (go_at_call 13; have _t := tk23; clear tk23; refine (rREq_v (K := 8388608) o21 o22 (z0.mono (by decide)) (z0.mono (by decide)) (by decide) (decide_eq_true rfl)).mono ?_; rintro e v23 ⟨rfl, g23⟩; replace o20 := o20.keep g23; replace o21 := o21.keep g23; replace o22 := o22.keep g23; replace oi := oi.keep g23; replace hBel := hBel.trans (g23.mono hBel.size))
          | (go_at_call 20; have _t := tk24; clear tk24; refine (RSign_v (K := 8388608) ((ha.keep hBel).mono (by decide)) (by decide) ESG.out).mono ?_; rintro e v24 ⟨rfl, g24⟩; replace o20 := o20.keep g24; replace o21 := o21.keep g24; replace o22 := o22.keep g24; replace oi := oi.keep g24; replace hBel := hBel.trans (g24.mono hBel.size))
          | (go_at_call 16; have _t := tk25; clear tk25; refine (RMul_v (K := 8388608) ((ha.keep hBel).mono (by decide)) (oi.is (zv.mono (by decide))) (by decide) EV1.out).mono ?_; rintro e v25 ⟨b25, s25, t25, rfl, o25, g25⟩; replace o20 := o20.keep g25; replace o21 := o21.keep g25; replace o22 := o22.keep g25; replace oi := oi.keep g25; replace hBel := hBel.trans (g25.mono hBel.size))
          | (go_at_call 21; have _t := tk26; clear tk26; refine (rRFromInt_v (by decide) (by decide) (show mkRat 1 1 = 1 from rfl)).mono ?_; rintro e v26 ⟨b26, s26, t26, rfl, o26, g26⟩; replace o20 := o20.keep g26; replace o21 := o21.keep g26; replace o22 := o22.keep g26; replace o25 := o25.keep g26; replace oi := oi.keep g26; replace hBel := hBel.trans (g26.mono hBel.size))
          | (go_at_call 13; have _t := tk27; clear tk27; refine (rREq_v (K := 8388608) o25 o26 (z1.mono (by decide)) (z1.mono (by decide)) (by decide) (decide_eq_true rfl)).mono ?_; rintro e v27 ⟨rfl, g27⟩; replace o20 := o20.keep g27; replace o21 := o21.keep g27; replace o22 := o22.keep g27; replace o25 := o25.keep g27; replace o26 := o26.keep g27; replace oi := oi.keep g27; replace hBel := hBel.trans (g27.mono hBel.size)))
      rename_i hHeld
      clear hHeld
      go_wp2_with fail
      go_ret
      exact ⟨rfl, hb2.trans (hBel.mono hb2.size)⟩
theorem rfield_walk (p0 : Bool) (A0 : Option Addr) (xs0 : List Nat) (c0 : Nat) (B0 : Option Addr) (ys0 : List Nat) (d0 : Nat) (p1 : Bool) (A1 : Option Addr) (xs1 : List Nat) (c1 : Nat) (B1 : Option Addr) (ys1 : List Nat) (d1 : Nat) (p2 : Bool) (A2 : Option Addr) (xs2 : List Nat) (c2 : Nat) (B2 : Option Addr) (ys2 : List Nat) (d2 : Nat) (w : World) (h0 : Lim w A0 c0 xs0) (g0 : Lim w B0 d0 ys0) (h1 : Lim w A1 c1 xs1) (g1 : Lim w B1 d1 ys1) (h2 : Lim w A2 c2 xs2) (g2 : Lim w B2 d2 ys2) (k0 : xs0.length ≤ 1048576) (l0 : ys0.length ≤ 1048576) (k1 : xs1.length ≤ 1048576) (l1 : ys1.length ≤ 1048576) (k2 : xs2.length ≤ 1048576) (l2 : ys2.length ≤ 1048576) :
    Calls Try.prog 4 #[.agg #[.bool p0, .slice A0 xs0.length c0, .slice B0 ys0.length d0], .agg #[.bool p1, .slice A1 xs1.length c1, .slice B1 ys1.length d1], .agg #[.bool p2, .slice A2 xs2.length c2, .slice B2 ys2.length d2]] w (RetB w true) :=
  rfield_v (raw_rat p0 h0 g0 k0 l0) (raw_rat p1 h1 g1 k1 l1) (raw_rat p2 h2 g2 k2 l2)
end Go.Proofs.Ytdcofnjekdkifaa
