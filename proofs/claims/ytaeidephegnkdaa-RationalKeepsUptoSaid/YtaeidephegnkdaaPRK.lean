/- RationalKeeps: for every input where the arguments hold together at most 1048576 values the law returns true and leaves its arguments as they were. -/
import Derived.Test.YtaeidephegnkdaaOpenR
import Derived.Test.YtaeidephegnkdaaHead
import Derived.Test.YtaeidephegnkdaaLawRK
namespace Go.Proofs.Ytaeidephegnkdaa.rationalKeeps
open Go.ChangeShapes Go.WideShapes Go.ChangeAt Go.RowKit Go.Joins Gm

set_option maxRecDepth 100000 in
theorem lifted (os : Os) (started : os.Started) (H : Type) (enc : TypeId × Value → H) (F : Stop.Interp) :
    ReturnsInHanded {} Try.checked os 5 .any ((Rows.OpenSpec.upto Rows.rationalKeepsSpec).pre6 enc Try.prog Try.f5 Rows.rationalKeepsUptoRow.domain false) (((Rows.OpenSpec.upto Rows.rationalKeepsSpec).at F).post enc Try.prog Try.f5 false true false false) := by
  refine returnsInHanded_of_cond (C := Try.checked) (s := Rows.OpenSpec.upto Rows.rationalKeepsSpec) (k := Rows.uptoSmall) rfl own started (by kernel_rfl) Try.func5
    (OpenSpec.witness (enc := enc) (C := Try.checked) (s := Rows.OpenSpec.upto Rows.rationalKeepsSpec) (k := Rows.uptoSmall) rfl false ⟨#[], #[.agg #[.bool false, .slice none 0 0, .slice none 0 0], .agg #[.bool false, .slice none 0 0, .slice none 0 0]], []⟩ 8 (by kernel_rfl) (by kernel_rfl) (by kernel_rfl)
      (x := ([.agg [.agg [.lit (.bool false), .nil], .nil], .agg [.agg [.lit (.bool false), .nil], .nil]], [], [])) (by kernel_rfl) rfl (by kernel_rfl)) ?_
  intro W base args ds gs before hval0 hW _ hk _
  have hval : ∀ (j : Nat) t v, Try.f5.params[j]? = some t → args[j]? = some v → Value.okWide Try.prog W .any base t v := hval0
  have hW' := hW
  obtain ⟨p, q, hA0, hV, rfl, hfz, hnd⟩ := hW
  have hA : DataW.TrodAll enc Try.prog W 0 (fun _ => true) true Try.f5.params.toList args.toList ds p := hA0
  rw [Try.params5] at hA hval
  obtain ⟨v0, vs0, d0, ds0, p0, q0, hargs, rfl, rfl, h0, r0⟩ := trodAll_cons hA
  obtain ⟨v1, vs1, d1, ds1, p1, q1, rfl, rfl, rfl, h1, r1⟩ := trodAll_cons r0
  obtain ⟨rfl, rfl, rfl⟩ := trodAll_nil r1
  obtain rfl : args = #[v0, v1] := by cases args; simp_all
  obtain ⟨rfl, rfl⟩ := trodVars_none hV
  have k0 := h0
  have lt0 : ∀ x ∈ p0, x.block < W.heap.size := by obtain ⟨m, hm⟩ := k0; exact DataW.trod_lt m _ _ _ hm
  have k1 := h1
  have lt1 : ∀ x ∈ p1, x.block < W.heap.size := by obtain ⟨m, hm⟩ := k1; exact DataW.trod_lt m _ _ _ hm
  have hbulk : Rows.uptoBulkAll _ ≤ 1048576 := of_decide_eq_true hk
  simp only [List.append_nil, Rows.uptoBulkAll] at hbulk
  obtain ⟨n0, A0, c0, xs0, B0, e0, ys0, rfl, l0, m0, s0, u0, t0⟩ := open_rat_ (hval 0 26 v0 rfl rfl) h0
  have z0 := Nat.le_trans l0.cap (show c0 ≤ 1048576 by omega)
  have y0 := Nat.le_trans m0.cap (show e0 ≤ 1048576 by omega)
  obtain ⟨n1, A1, c1, xs1, B1, e1, ys1, rfl, l1, m1, s1, u1, t1⟩ := open_rat_ (hval 1 26 v1 rfl rfl) h1
  have z1 := Nat.le_trans l1.cap (show c1 ≤ 1048576 by omega)
  have y1 := Nat.le_trans m1.cap (show e1 ≤ 1048576 by omega)
  clear hA0 hval0
  refine (rkeeps_walk n0 A0 xs0 c0 B0 ys0 e0 n1 A1 xs1 c1 B1 ys1 e1 W l0 m0 l1 m1 z0 y0 z1 y1).mono fun e W' ⟨he, bel⟩ => ?_
  subst he
  exact ⟨_, rfl, _, _, _, [], _, [], hW', trodAll_mk1 (shut_bool Try.underlying4 _), (trodAll_cons_mk (Below.trod laidOut (by kernel_rfl) (of_decide_eq_true (by kernel_rfl)) k0 bel lt0) (trodAll_cons_mk (Below.trod laidOut (by kernel_rfl) (of_decide_eq_true (by kernel_rfl)) k1 bel lt1) trodAll_mk0)), rfl, bel.frame _, fun h => by cases h⟩

set_option maxHeartbeats 1000000 in
theorem closed : joinedFacts Try.prog 5 Try.f5 (Rows.OpenSpec.upto Rows.rationalKeepsSpec).bare Rows.rationalKeepsUptoRow = true := by
  unfold joinedFacts
  repeat' (with_reducible refine andT ?_ ?_)
  any_goals (with_reducible exact mayEnter_)
  any_goals (rw [lifts_])
  any_goals (rw [make_])
  all_goals (as_aux_lemma => kernel_rfl)

theorem proved : Rows.RationalKeepsUptoSaid :=
  OpenClaim.holds_of_cond 5 Try.f5 rfl rfl rfl rfl rfl rfl rfl ⟨rfl, rfl, rfl, rfl, rfl⟩ rfl rfl rfl rfl rfl (by as_aux_lemma => kernel_rfl) Try.func5 closed
    (of_decide_eq_true (by as_aux_lemma => kernel_rfl)) (by unfold Func.isWrapper; first | (rw [if_pos (by decide +kernel)]; kernel_rfl) | (rw [if_neg (by decide +kernel)]; exact ⟨rfl, rfl⟩))
    (fun os started H enc _ F => lifted os started H enc F)
end Go.Proofs.Ytaeidephegnkdaa.rationalKeeps
