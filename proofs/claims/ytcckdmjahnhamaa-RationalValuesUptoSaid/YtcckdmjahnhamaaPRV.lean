/- RationalValues: for every input where the arguments hold together at most 1048576 values the law returns true and leaves its arguments as they were. -/
import Derived.Test.YtcckdmjahnhamaaOpenR
import Derived.Test.YtcckdmjahnhamaaHead
import Derived.Test.YtcckdmjahnhamaaOF
import Derived.Test.YtcckdmjahnhamaaVRV
namespace Go.Proofs.Ytcckdmjahnhamaa.rationalValues
open Go.ChangeShapes Go.WideShapes Go.ChangeAt Go.RowKit Go.Joins Gm

set_option maxRecDepth 100000 in
theorem lifted (os : Os) (started : os.Started) (H : Type) (enc : TypeId × Value → H) (F : Stop.Interp) :
    ReturnsInHanded {} Try.checked os 3 .any ((Rows.OpenSpec.upto Rows.rationalValuesSpec).pre6 enc Try.prog Try.f3 Rows.rationalValuesUptoRow.domain false) (((Rows.OpenSpec.upto Rows.rationalValuesSpec).at F).post enc Try.prog Try.f3 false true false false) := by
  refine returnsInHanded_of_cond (C := Try.checked) (s := Rows.OpenSpec.upto Rows.rationalValuesSpec) (k := Rows.uptoSmall) rfl own started (by kernel_rfl) Try.func3
    (OpenSpec.witness (enc := enc) (C := Try.checked) (s := Rows.OpenSpec.upto Rows.rationalValuesSpec) (k := Rows.uptoSmall) rfl false ⟨#[], #[.agg #[.bool false, .slice none 0 0, .slice none 0 0], .agg #[.bool false, .slice none 0 0, .slice none 0 0], .agg #[.int .i64 0, .int .i64 0], .agg #[.bool false, .slice none 0 0], .agg #[.bool false, .slice none 0 0], .int .i64 0], []⟩ 8 (by kernel_rfl) (by kernel_rfl) (by kernel_rfl)
      (x := ([.agg [.agg [.lit (.bool false), .nil], .nil], .agg [.agg [.lit (.bool false), .nil], .nil], .agg [.lit (.int .i64 0), .lit (.int .i64 0)], .agg [.lit (.bool false), .nil], .agg [.lit (.bool false), .nil], .lit (.int .i64 0)], [], [])) (by kernel_rfl) rfl (by kernel_rfl)) ?_
  intro W base args ds gs before hval0 hW _ hk _
  have hval : ∀ (j : Nat) t v, Try.f3.params[j]? = some t → args[j]? = some v → Value.okWide Try.prog W .any base t v := hval0
  have hW' := hW
  obtain ⟨p, q, hA0, hV, rfl, hfz, hnd⟩ := hW
  have hA : DataW.TrodAll enc Try.prog W 0 (fun _ => true) true Try.f3.params.toList args.toList ds p := hA0
  rw [Try.params3] at hA hval
  obtain ⟨v0, vs0, d0, ds0, p0, q0, hargs, rfl, rfl, h0, r0⟩ := trodAll_cons hA
  obtain ⟨v1, vs1, d1, ds1, p1, q1, rfl, rfl, rfl, h1, r1⟩ := trodAll_cons r0
  obtain ⟨v2, vs2, d2, ds2, p2, q2, rfl, rfl, rfl, h2, r2⟩ := trodAll_cons r1
  obtain ⟨v3, vs3, d3, ds3, p3, q3, rfl, rfl, rfl, h3, r3⟩ := trodAll_cons r2
  obtain ⟨v4, vs4, d4, ds4, p4, q4, rfl, rfl, rfl, h4, r4⟩ := trodAll_cons r3
  obtain ⟨v5, vs5, d5, ds5, p5, q5, rfl, rfl, rfl, h5, r5⟩ := trodAll_cons r4
  obtain ⟨rfl, rfl, rfl⟩ := trodAll_nil r5
  obtain rfl : args = #[v0, v1, v2, v3, v4, v5] := by cases args; simp_all
  obtain ⟨rfl, rfl⟩ := trodVars_none hV
  have k0 := h0
  have lt0 : ∀ x ∈ p0, x.block < W.heap.size := by obtain ⟨m, hm⟩ := k0; exact DataW.trod_lt m _ _ _ hm
  have k1 := h1
  have lt1 : ∀ x ∈ p1, x.block < W.heap.size := by obtain ⟨m, hm⟩ := k1; exact DataW.trod_lt m _ _ _ hm
  have k2 := h2
  have lt2 : ∀ x ∈ p2, x.block < W.heap.size := by obtain ⟨m, hm⟩ := k2; exact DataW.trod_lt m _ _ _ hm
  have k3 := h3
  have lt3 : ∀ x ∈ p3, x.block < W.heap.size := by obtain ⟨m, hm⟩ := k3; exact DataW.trod_lt m _ _ _ hm
  have k4 := h4
  have lt4 : ∀ x ∈ p4, x.block < W.heap.size := by obtain ⟨m, hm⟩ := k4; exact DataW.trod_lt m _ _ _ hm
  have hbulk : Rows.uptoBulkAll _ ≤ 1048576 := of_decide_eq_true hk
  simp only [List.append_nil, Rows.uptoBulkAll] at hbulk
  obtain ⟨n0, A0, c0, xs0, B0, e0, ys0, rfl, l0, m0, s0, u0, t0⟩ := open_rat_ (hval 0 26 v0 rfl rfl) h0
  have z0 := Nat.le_trans l0.cap (show c0 ≤ 1048576 by omega)
  have y0 := Nat.le_trans m0.cap (show e0 ≤ 1048576 by omega)
  obtain ⟨n1, A1, c1, xs1, B1, e1, ys1, rfl, l1, m1, s1, u1, t1⟩ := open_rat_ (hval 1 26 v1 rfl rfl) h1
  have z1 := Nat.le_trans l1.cap (show c1 ≤ 1048576 by omega)
  have y1 := Nat.le_trans m1.cap (show e1 ≤ 1048576 by omega)
  obtain ⟨a2, b2, rfl, w2, x2⟩ := open_frac_ (hval 2 28 v2 rfl rfl) h2
  obtain ⟨n3, A3, c3, xs3, rfl, l3, s3, u3⟩ := open_int_ (hval 3 24 v3 rfl rfl) h3
  have z3 := Nat.le_trans l3.cap (show c3 ≤ 1048576 by omega)
  obtain ⟨n4, A4, c4, xs4, rfl, l4, s4, u4⟩ := open_int_ (hval 4 24 v4 rfl rfl) h4
  have z4 := Nat.le_trans l4.cap (show c4 ≤ 1048576 by omega)
  obtain ⟨a5, rfl, rfl, rfl, w5⟩ := open_int Try.underlying3 (hval 5 3 v5 rfl rfl) h5
  clear hA0 hval0
  refine (rvals_walk n0 A0 xs0 c0 B0 ys0 e0 n1 A1 xs1 c1 B1 ys1 e1 a2 b2 n3 A3 xs3 c3 n4 A4 xs4 c4 a5 W l0 m0 l1 m1 l3 l4 z0 y0 z1 y1 z3 z4 (bounds_i64 w2) (bounds_i64 x2) (bounds_i64 w5)).mono fun e W' ⟨he, bel⟩ => ?_
  subst he
  exact ⟨_, rfl, _, _, _, [], _, [], hW', trodAll_mk1 (shut_bool Try.underlying4 _), (trodAll_cons_mk (Below.trod laidOut (by kernel_rfl) (of_decide_eq_true (by kernel_rfl)) k0 bel lt0) (trodAll_cons_mk (Below.trod laidOut (by kernel_rfl) (of_decide_eq_true (by kernel_rfl)) k1 bel lt1) (trodAll_cons_mk (Below.trod laidOut (by kernel_rfl) (of_decide_eq_true (by kernel_rfl)) k2 bel lt2) (trodAll_cons_mk (Below.trod laidOut (by kernel_rfl) (of_decide_eq_true (by kernel_rfl)) k3 bel lt3) (trodAll_cons_mk (Below.trod laidOut (by kernel_rfl) (of_decide_eq_true (by kernel_rfl)) k4 bel lt4) (trodAll_cons_mk (shut_int Try.underlying3 w5) trodAll_mk0)))))), rfl, bel.frame _, fun h => by cases h⟩

set_option maxHeartbeats 1000000 in
theorem closed : joinedFacts Try.prog 3 Try.f3 (Rows.OpenSpec.upto Rows.rationalValuesSpec).bare Rows.rationalValuesUptoRow = true := by
  unfold joinedFacts
  repeat' (with_reducible refine andT ?_ ?_)
  any_goals (with_reducible exact mayEnter_)
  any_goals (rw [lifts_])
  any_goals (rw [make_])
  all_goals (as_aux_lemma => kernel_rfl)

theorem proved : Rows.RationalValuesUptoSaid :=
  OpenClaim.holds_of_cond 3 Try.f3 rfl rfl rfl rfl rfl rfl rfl ⟨rfl, rfl, rfl, rfl, rfl⟩ rfl rfl rfl rfl rfl (by as_aux_lemma => kernel_rfl) Try.func3 closed
    (of_decide_eq_true (by as_aux_lemma => kernel_rfl)) (by unfold Func.isWrapper; first | (rw [if_pos (by decide +kernel)]; kernel_rfl) | (rw [if_neg (by decide +kernel)]; exact ⟨rfl, rfl⟩))
    (fun os started H enc _ F => lifted os started H enc F)
end Go.Proofs.Ytcckdmjahnhamaa.rationalValues
