/- Contracts of rational.FromInt, Div. -/
import Derived.Test.YtaeidephegnkdaaMW
namespace Go.Proofs.Ytaeidephegnkdaa
open Go.RowKit Gm

theorem rat_inv_neg (r : Rat) : (-r)⁻¹ = -r⁻¹ := by
  by_cases h : r = 0
  · subst h; simp
  · have h2 : -r ≠ 0 := fun e => h (by rw [← Rat.neg_neg r, e]; rfl)
    have k : -r * -r⁻¹ = 1 := by rw [Rat.neg_mul, Rat.mul_neg, Rat.neg_neg]; exact Rat.mul_inv_cancel _ h
    calc (-r)⁻¹ = (-r)⁻¹ * (-r * -r⁻¹) := by rw [k, Rat.mul_one]
      _ = -r⁻¹ := by rw [← Rat.mul_assoc, Rat.inv_mul_cancel _ h2, Rat.one_mul]
theorem mkRat_one (v : Int) : (mkRat v 1).num = v ∧ (mkRat v 1).den = 1 := by
  obtain ⟨h1, h2⟩ := mkRat_parts (n := v) (d := 1) (by decide)
  rw [h1, h2, Nat.gcd_one_right]
  exact ⟨by simp, rfl⟩
theorem OwInt.one {lo : Nat} (w : World) (h : lo ≤ w.heap.size) : OwInt lo (w.alloc (.cells #[.int .u32 1] 40)) (.bool false) (.slice (some ⟨w.heap.size, 0, none⟩) 1 1) 1 := by
  have hrow := (Row.new w [1]).own (lo := lo) (Lb_lit _ (by decide)) h (by decide)
  refine ⟨some ⟨w.heap.size, 0, none⟩, 1, rfl, ?_, ?_⟩
  · show _ = Value.slice _ (limbs 1).length 1
    rw [limbs_one]; rfl
  · show Own _ _ _ _ (limbs 1)
    rw [limbs_one]; simpa [cellsOf] using hrow
theorem IsRat.inv {w : World} {b s t : Value} {r : Rat} {K : Nat} (h : IsRat w b s t r K) : IsRat w b t s r⁻¹ K := by
  obtain ⟨p, A, xs, c, B, ys, d, rfl, rfl, rfl, ha, hd, hs, ht, h1, hr⟩ := h
  refine ⟨p, B, ys, d, A, xs, c, rfl, rfl, rfl, hd, ha, ht, hs, h1, ?_⟩
  rw [← hr]
  unfold rv iv
  by_cases hp : p = true
  · subst hp
    simp only [if_true]
    rw [← Rat.neg_mkRat, ← Rat.neg_mkRat, rat_inv_neg, ← Rat.divInt_ofNat, ← Rat.divInt_ofNat, Rat.inv_divInt]
  · have : p = false := by cases p <;> simp_all
    subst this
    simp only [Bool.false_eq_true, if_false]
    rw [← Rat.divInt_ofNat, ← Rat.divInt_ofNat, Rat.inv_divInt]

set_option maxRecDepth 100000 in
set_option maxHeartbeats 2000000 in
theorem RFromInt_v {w : World} {na : Int} {q : Rat}  (h1 : -9223372036854775808 ≤ na) (h2 : na ≤ 9223372036854775807) (e : mkRat na 1 = q) : Calls Try.prog 44 #[.int .i64 na] w (RetR w q) := by
  obtain ⟨W, hW, hbW, i0⟩ : ∃ W, w.alloc (.cells #[.bool false, .slice none 0 0, .slice none 0 0] 26) = W ∧ Below w.heap.size w W ∧ Bx3 W (w.heap.size) (.bool false) (.slice none 0 0) (.slice none 0 0) := ⟨_, rfl, (Below.refl _ _).alloc (by simp <;> omega) _, by refine ⟨?_, ?_, ?_, ?_, ?_, ?_⟩ <;> go_simp⟩
  have ji0 := i0.lt; have x00 := i0.c0; have x01 := i0.c1; have x02 := i0.c2
  have HW := Lib.hid hW
  clear hW
  obtain ⟨n, en⟩ : ∃ n, na = n := ⟨_, rfl⟩
  have e1 : q.num = n := by rw [← e, ← en]; exact (mkRat_one na).1
  have e2 : q.den = 1 := by rw [← e]; exact (mkRat_one na).2
  clear e
  have EN := Lib.hid en
  clear en
  have E1 := Lib.hid e1
  clear e1
  have E2 := Lib.hid e2
  clear e2
  go_enter Try.func44, Try.ntmps44
  go_wp2_with fail
  rw [HW.out]
  refine (IFromInt_v h1 h2 EN.out).mono ?_
  rintro e w1 ⟨b1, s1, rfl, o1, g1⟩
  obtain ⟨q0, q1⟩ := o1.st
  obtain ⟨c0, c1⟩ := o1.cl
  have tR := i0.keep g1
  obtain ⟨y0, y1, y2, y3, y4, y5⟩ := id tR
  obtain ⟨v, ev⟩ : ∃ v, Value.slice (some ⟨w1.heap.size, 0, none⟩) 1 1 = v := ⟨_, rfl⟩
  have hsz : (((w1.setCell ⟨w.heap.size, 0, none⟩ b1).setCell ⟨w.heap.size, 1, none⟩ s1).setCell ⟨w.heap.size, 2, none⟩ v).heap.size = w1.heap.size := by rw [World.size_setCell, World.size_setCell, World.size_setCell]
  have hb1 := below_put3 (hbW.trans (g1.mono hbW.size)) (Nat.le_refl _) b1 s1 v
  have o3 := (o1.mono hbW.size).put3 tR nol0 b1 s1 v
  have tR2 := tR.put b1 s1 v
  obtain ⟨w2, hw2⟩ : ∃ w2, ((w1.setCell ⟨w.heap.size, 0, none⟩ b1).setCell ⟨w.heap.size, 1, none⟩ s1).setCell ⟨w.heap.size, 2, none⟩ v = w2 := ⟨_, rfl⟩
  rw [hw2] at hb1 o3 tR2 hsz
  have bo := bel1 w2 (.cells #[.int .u32 1] 40)
  have o2 := OwInt.one (lo := w.heap.size) w2 hb1.size
  rw [hsz, ev] at o2
  have oq : OwRat w.heap.size (w2.alloc (.cells #[.int .u32 1] 40)) b1 s1 v q := OwRat.of (by rw [E1.out]; exact o3.keep bo) (by rw [E2.out]; exact o2)
  have HRET := Lib.hid (show RetR w q (.returned (.agg #[b1, s1, v])) (w2.alloc (.cells #[.int .u32 1] 40)) from ⟨b1, s1, v, rfl, oq, hb1.trans (bo.mono hb1.size)⟩)
  have t6 := tR2.keep bo
  obtain ⟨z0, z1, z2, _, _, _⟩ := t6
  have HW2 := Lib.hid hw2
  have EV := Lib.hid ev
  clear o1 o2 o3 tR tR2 oq bo hb1 hsz hw2 ev
  have nw : w.heap.size < w1.heap.size := Nat.lt_of_lt_of_le ji0 g1.size
  go_wp2_with fail
  rw [EV.out, HW2.out]
  exact bodyPost_ret (v := .agg #[b1, s1, v]) (by simp [results, Try.results44, go_sem, z0, z1, z2]) rfl HRET.out
set_option maxRecDepth 100000 in
set_option maxHeartbeats 2000000 in
theorem RDivN_v {w : World} {ax ay_ az : Value} {ra : Rat} {bx by_ bz : Value} {rb : Rat} {K : Nat} (ha : IsRat w ax ay_ az ra K) (hb : IsRat w bx by_ bz rb K) (hK : K ≤ 1099511627776) (h0 : rb = 0) : Calls Try.prog 18 #[.agg #[ax, ay_, az], .agg #[bx, by_, bz]] w (RetRatN w) := by
  obtain ⟨W, hW, hbW, i0, i1, i2⟩ : ∃ W, ((w.alloc (.cells #[ax, ay_, az] 26)).alloc (.cells #[bx, by_, bz] 26)).alloc (.cells #[.bool false, .slice none 0 0, .slice none 0 0] 26) = W ∧ Below w.heap.size w W ∧ Bx3 W (w.heap.size) ax ay_ az ∧ Bx3 W (w.heap.size + 1) bx by_ bz ∧ Bx3 W (w.heap.size + 1 + 1) (.bool false) (.slice none 0 0) (.slice none 0 0) := ⟨_, rfl, (((Below.refl _ _).alloc (by simp <;> omega) _).alloc (by simp <;> omega) _).alloc (by simp <;> omega) _, by refine ⟨?_, ?_, ?_, ?_, ?_, ?_⟩ <;> go_simp, by refine ⟨?_, ?_, ?_, ?_, ?_, ?_⟩ <;> go_simp, by refine ⟨?_, ?_, ?_, ?_, ?_, ?_⟩ <;> go_simp⟩
  have ji0 := i0.lt; have x00 := i0.c0; have x01 := i0.c1; have x02 := i0.c2
  have ji1 := i1.lt; have x10 := i1.c0; have x11 := i1.c1; have x12 := i1.c2
  have ji2 := i2.lt; have x20 := i2.c0; have x21 := i2.c1; have x22 := i2.c2
  have HW := Lib.hid hW
  clear hW
  replace ha := ha.keep hbW
  replace hb := hb.keep hbW
  have hs : sgn rb.num = 0 := sgn_zero.2 h0
  have HS := Lib.hid hs
  clear hs
  go_enter Try.func18, Try.ntmps18
  go_wp2_with fail
  rw [HW.out]
  refine (RSign_v hb hK HS.out).mono ?_
  rintro e w1 ⟨rfl, g1⟩
  have tR := i2.keep g1
  obtain ⟨y0, y1, y2, y3, y4, y5⟩ := id tR
  have hfin := below_put3 (hbW.trans (g1.mono hbW.size)) (show w.heap.size ≤ w.heap.size + 1 + 1 by omega) (.bool false) (.slice none 0 0) (.slice none 0 0)
  go_wp2_with fail
  exact bodyPost_ret (v := .tuple #[.agg #[.bool false, .slice none 0 0, .slice none 0 0], .bool false]) (by simp [results, Try.results18, go_sem, y0, y1, y2]) rfl ⟨rfl, hfin⟩
set_option maxRecDepth 100000 in
set_option maxHeartbeats 2000000 in
theorem RDivY_v {w : World} {ax ay_ az : Value} {ra : Rat} {bx by_ bz : Value} {rb : Rat} {K : Nat} {q : Rat} (ha : IsRat w ax ay_ az ra K) (hb : IsRat w bx by_ bz rb K) (hK : K ≤ 1099511627776) (h0 : rb ≠ 0) (e : ra * rb⁻¹ = q) : Calls Try.prog 18 #[.agg #[ax, ay_, az], .agg #[bx, by_, bz]] w (RetRY w q) := by
  obtain ⟨W, hW, hbW, i0, i1, i2⟩ : ∃ W, ((w.alloc (.cells #[ax, ay_, az] 26)).alloc (.cells #[bx, by_, bz] 26)).alloc (.cells #[.bool false, .slice none 0 0, .slice none 0 0] 26) = W ∧ Below w.heap.size w W ∧ Bx3 W (w.heap.size) ax ay_ az ∧ Bx3 W (w.heap.size + 1) bx by_ bz ∧ Bx3 W (w.heap.size + 1 + 1) (.bool false) (.slice none 0 0) (.slice none 0 0) := ⟨_, rfl, (((Below.refl _ _).alloc (by simp <;> omega) _).alloc (by simp <;> omega) _).alloc (by simp <;> omega) _, by refine ⟨?_, ?_, ?_, ?_, ?_, ?_⟩ <;> go_simp, by refine ⟨?_, ?_, ?_, ?_, ?_, ?_⟩ <;> go_simp, by refine ⟨?_, ?_, ?_, ?_, ?_, ?_⟩ <;> go_simp⟩
  have ji0 := i0.lt; have x00 := i0.c0; have x01 := i0.c1; have x02 := i0.c2
  have ji1 := i1.lt; have x10 := i1.c0; have x11 := i1.c1; have x12 := i1.c2
  have ji2 := i2.lt; have x20 := i2.c0; have x21 := i2.c1; have x22 := i2.c2
  have HW := Lib.hid hW
  clear hW
  replace ha := ha.keep hbW
  replace hb := hb.keep hbW
  obtain ⟨sg, esg⟩ : ∃ x, sgn rb.num = x := ⟨_, rfl⟩
  have hsg : ¬ sg = 0 := fun e => h0 (sgn_zero.1 (esg.trans e))
  obtain ⟨v, ev⟩ : ∃ x, rb⁻¹ = x := ⟨_, rfl⟩
  have hi := hb.inv
  rw [ev] at hi e
  clear h0
  have ESG := Lib.hid esg
  clear esg
  have E := Lib.hid e
  clear e
  have EV := Lib.hid ev
  clear ev
  go_enter Try.func18, Try.ntmps18
  go_wp2_with fail
  rw [HW.out]
  refine (RSign_v hb hK ESG.out).mono ?_
  rintro e w1 ⟨rfl, g1⟩
  obtain ⟨c0, c1, c2⟩ := hb.cl
  replace ha := ha.keep g1
  replace hi := hi.keep g1
  replace i0 := i0.keep g1
  replace i1 := i1.keep g1
  replace i2 := i2.keep g1
  have hb1 := hbW.trans (g1.mono hbW.size)
  clear x00 x01 x02 x10 x11 x12 x20 x21 x22
  have x00 := i0.c0
  have x01 := i0.c1
  have x02 := i0.c2
  have x10 := i1.c0
  have x11 := i1.c1
  have x12 := i1.c2
  go_wp2_with fail
  refine (RMul_v ha hi hK E.out).mono ?_
  rintro e w2 ⟨b2, s2, t2, rfl, o2, g2⟩
  have tR := i2.keep g2
  obtain ⟨y0, y1, y2, y3, y4, y5⟩ := id tR
  obtain ⟨q0, q1, q2⟩ := o2.st
  have HRET := Lib.hid (ret_ry (w := w) tR (by omega) o2 hb1.size (hb1.trans (g2.mono hb1.size)))
  clear o2 tR
  go_wp2_with fail
  exact bodyPost_ret (v := .tuple #[.agg #[b2, s2, t2], .bool true]) (by simp [results, Try.results18, go_sem, y0, y1, y2]) rfl HRET.out
end Go.Proofs.Ytaeidephegnkdaa
