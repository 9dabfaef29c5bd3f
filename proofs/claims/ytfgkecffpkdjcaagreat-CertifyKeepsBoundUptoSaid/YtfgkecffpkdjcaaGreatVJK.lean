/- CertifyKeepsBound by the executor. -/
import Derived.Test.YtfgkecffpkdjcaaGreatVI
import Derived.Test.YtfgkecffpkdjcaaGreatOC
namespace Go.Proofs.YtfgkecffpkdjcaaGreat
open Go.RowKit Gm Go.Vx


theorem cand_den (q : Rat) {d : Int} (hd : 1 ≤ d) : ((cand q d).den : Int) ≤ d := by
  unfold cand
  split
  · exact (bel_ok q hd).2.1
  · split
    · exact (abv_ok q hd).2.1
    · exact hd
open Classical in
theorem shL_cases (p : Prg) (y : List Rat) (v : Rat) (m : Int) : shL p y v m = y ∨ (AtL p (shL p y v m) v ∧ (∀ j, ((rg (shL p y v m) j).den : Int) ≤ m) ∧ ∃ i, shL p y v m = candL y (pw i).num) := by
  unfold shL
  split
  · rename_i h
    have hs := Classical.choose_spec h
    refine .inr ⟨hs.1.2, fun j => ?_, _, rfl⟩
    rw [candL_rg]
    have h1 := cand_den (rg y j) (pw_pos (Classical.choose h))
    have h2 : pw (Classical.choose h) ≤ (m : Rat) := by
      refine Rat.le_trans hs.1.1 ?_
      unfold limQ minQ
      split
      · exact Rat.le_refl
      · rename_i hh
        refine Rat.le_of_lt (Rat.not_le.1 fun h3 => hh ?_)
        exact of_decide_eq_true ((cmp_le _ _).trans (decide_eq_true h3))
    have h3 : (pw (Classical.choose h)).num ≤ m := by
      rw [show pw (Classical.choose h) = (((pw (Classical.choose h)).num : Int) : Rat) from rfl, Rat.intCast_le_intCast] at h2
      exact h2
    omega
  · exact .inl rfl
theorem rl_sz {W : World} {y : List Rat} {K : Nat} {v : Value} (h : Rob (fun _ => False) W (rlAv y K) [v]) (h1 : 1 ≤ K) (j : Nat) : Sz (rg y j) K := by
  by_cases hj : j < y.length
  · obtain ⟨A, c, _, _, hh⟩ := Rob.lst h
    obtain ⟨b, off, us, _, _, _, _, _, _, hr⟩ := hh (by omega)
    obtain ⟨u1, u2, _, h2, _⟩ := (hr j hj).here
    obtain ⟨_, _, _, _, hi⟩ := h2
    exact hi.sz
  · have e : rg y j = 0 := by unfold rg; rw [List.getD_eq_getElem?_getD, List.getElem?_eq_none (by omega)]; rfl
    have h1' : (limbs 1).length = 1 := limbs1_len
    rw [e]; exact ⟨by show (limbs 0).length ≤ K; rw [limbs_zero]; exact Nat.zero_le _, by show (limbs 1).length ≤ K; omega⟩
set_option smartUnfolding false in
set_option maxRecDepth 100000 in
theorem rCanon_x (y : List Rat) (K : Nat) (hl : y.length ≤ 1048576) (hK : K ≤ 134217728) : fnOk ⟨TT, specsOf [rRNorm_s]⟩ Tryz.f60 [rlAv y K] (madeAv (rg y) y.length K) := by
  (repeat ((conv=>whnf);refine And.intro (by first|omega|exact True.intro|exact ⟨by omega,trivial⟩|exact ⟨by omega,by omega⟩|rfl|exact And.intro rfl (by omega)|(dsimp only;omega)) ?_))<;>try (conv=>whnf)
  refine ⟨⟨Nat, fun j => j ≤ y.length, fun j => [.slot 4 (.val (.int .i64 (j : Int))), .own 3 36 3 j (madeC (rg y) K), .slot 3 (.row 3)], fun j => y.length - j, 0⟩, 0, Nat.zero_le _, ?_⟩
  conv => whnf
  refine And.intro ?_ ?_
  · all_goals (repeat' first|exact True.intro|exact rfl|apply And.intro|assumption|omega|(exact Or.inr (by assumption))|(refine congrArg (Value.int .i64) ?_;omega))
  conv => whnf
  rintro j h3
  (repeat ((conv=>whnf);refine And.intro (by first|omega|exact True.intro|exact ⟨by omega,trivial⟩|exact ⟨by omega,by omega⟩|rfl|exact And.intro rfl (by omega)|(dsimp only;omega)) ?_))<;>try (conv=>whnf)
  refine And.intro (fun h5 => ?_) (fun h5 => ?_)
  · have h6 : (j : Int) < y.length := of_decide_eq_true h5
    have w1 : IntKind.i64.wrap ((j : Int) + 1) = (j : Int) + 1 := w64 (by omega) (by omega)
    (repeat ((conv=>whnf);refine And.intro (by first|omega|exact True.intro|exact ⟨by omega,trivial⟩|exact ⟨by omega,by omega⟩|rfl|exact And.intro rfl (by omega)|(dsimp only;omega)) ?_))<;>try (conv=>whnf)
    refine ⟨j + 1, (show j + 1 ≤ y.length by omega), (show y.length - (j + 1) < y.length - j by omega), ?_⟩
    conv => whnf
    all_goals (repeat' first|exact True.intro|exact rfl|apply And.intro|assumption|omega|(exact Or.inr (by assumption))|(refine congrArg (Value.int .i64) ?_;omega))
    exact made_app (f := rg y) rfl (.inl (by omega))
  have h6 : ¬ (j : Int) < y.length := of_decide_eq_false h5
  obtain rfl : j = y.length := by omega
  (repeat ((conv=>whnf);refine And.intro (by first|omega|exact True.intro|exact ⟨by omega,trivial⟩|exact ⟨by omega,by omega⟩|rfl|exact And.intro rfl (by omega)|(dsimp only;omega)) ?_))<;>try (conv=>whnf)
  all_goals (repeat' first|exact True.intro|exact rfl|apply And.intro|assumption|omega|(exact Or.inr (by assumption))|(refine congrArg (Value.int .i64) ?_;omega))
  exact made_refl _ _ _

set_option maxRecDepth 100000 in
noncomputable def rCanon_s : PSpec Tryz.prog := ⟨60, ghSpec (List Rat × Nat) (fun | (c0, c1) => [rlAv c0 c1]) (fun | (c0, c1) => c0.length ≤ 1048576 ∧ c1 ≤ 134217728) (fun | (c0, c1) => madeAv (rg c0) c0.length c1), ghSpec_ok (fn := Tryz.f60) (ctx_ok TT_ok [rRNorm_s]) mixed_ok (by kernel_rfl) (fun | (c0, c1), hp => rCanon_x c0 c1 hp.1 hp.2), by kernel_rfl⟩

set_option maxHeartbeats 4000000 in
set_option smartUnfolding false in
set_option maxRecDepth 100000 in
theorem kb12_x (p : Prg) (y : List Rat) (v : Rat) (m : Int) (K M : Nat) (hb : PB p K) (hy : PY p y K M) (hy2 : PY p y (K + 2) M) (hs : SH p y K M) : fnOk ⟨TT, specsOf [sml_s, catl_s, aw12_s, csh_s, rICmp_s, rCanon_s, rSame_s]⟩ Tryz.f11 [prgAv p K, rlAv y K, rAv v K, nAv m K] (.val (.bool true)) := by
  have hK := hs.hK
  have hl := hs.l
  (repeat ((conv=>whnf);refine And.intro (by first|omega|exact True.intro|exact ⟨by omega,trivial⟩|exact ⟨by omega,by omega⟩|rfl|exact And.intro rfl (by omega)|(dsimp only;omega)) ?_))<;>try (conv=>whnf)
  refine ⟨(p, K), ⟨hb, And.intro (prg_fit p (Nat.le_refl K)) True.intro⟩, ?_⟩
  (repeat ((conv=>whnf);refine And.intro (by first|omega|exact True.intro|exact ⟨by omega,trivial⟩|exact ⟨by omega,by omega⟩|rfl|exact And.intro rfl (by omega)|(dsimp only;omega)) ?_))<;>try (conv=>whnf)
  refine And.intro (fun h1=>?_) (fun h1=>?_)
  · (repeat ((conv=>whnf);refine And.intro (by first|omega|exact True.intro|exact ⟨by omega,trivial⟩|exact ⟨by omega,by omega⟩|rfl|exact And.intro rfl (by omega)|(dsimp only;omega)) ?_))<;>try (conv=>whnf)
    all_goals (repeat' first|exact True.intro|exact rfl|apply And.intro|assumption|omega|(exact Or.inr (by assumption))|(refine congrArg (Value.int .i64) ?_;omega))
  (repeat ((conv=>whnf);refine And.intro (by first|omega|exact True.intro|exact ⟨by omega,trivial⟩|exact ⟨by omega,by omega⟩|rfl|exact And.intro rfl (by omega)|(dsimp only;omega)) ?_))<;>try (conv=>whnf)
  refine And.intro (fun h2 => ?_) (fun h2 => ?_)
  · (repeat ((conv=>whnf);refine And.intro (by first|omega|exact True.intro|exact ⟨by omega,trivial⟩|exact ⟨by omega,by omega⟩|rfl|exact And.intro rfl (by omega)|(dsimp only;omega)) ?_))<;>try (conv=>whnf)
    all_goals (repeat' first|exact True.intro|exact rfl|apply And.intro|assumption|omega|(exact Or.inr (by assumption))|(refine congrArg (Value.int .i64) ?_;omega))
  (repeat ((conv=>whnf);refine And.intro (by first|omega|exact True.intro|exact ⟨by omega,trivial⟩|exact ⟨by omega,by omega⟩|rfl|exact And.intro rfl (by omega)|(dsimp only;omega)) ?_))<;>try (conv=>whnf)
  refine ⟨((((p, y), v), K), M), ⟨hy, And.intro (prg_fit p (Nat.le_refl K)) (And.intro (rl_fit y (Nat.le_refl K)) (And.intro (rat_fit v (Nat.le_refl K)) True.intro))⟩, ?_⟩
  (repeat ((conv=>whnf);refine And.intro (by first|omega|exact True.intro|exact ⟨by omega,trivial⟩|exact ⟨by omega,by omega⟩|rfl|exact And.intro rfl (by omega)|(dsimp only;omega)) ?_))<;>try (conv=>whnf)
  refine And.intro (fun h3 => ?_) (fun h3 => ?_)
  · (repeat ((conv=>whnf);refine And.intro (by first|omega|exact True.intro|exact ⟨by omega,trivial⟩|exact ⟨by omega,by omega⟩|rfl|exact And.intro rfl (by omega)|(dsimp only;omega)) ?_))<;>try (conv=>whnf)
    all_goals (repeat' first|exact True.intro|exact rfl|apply And.intro|assumption|omega|(exact Or.inr (by assumption))|(refine congrArg (Value.int .i64) ?_;omega))
  have ha : AtL p y v := pbnf h3
  have hc := shL_cases p y v m
  have hzat : AtL p (shL p y v m) v := by
    rcases hc with h | h
    · rw [h]; exact ha
    · exact h.1
  have hzy : PY p (shL p y v m) (K + 2) M := by
    rcases hc with h | ⟨_, _, i, h⟩
    · rw [h]; exact hy2
    · rw [h]; exact hs.c i
  have hzl := shL_len p y v m
  (repeat ((conv=>whnf);refine And.intro (by first|omega|exact True.intro|exact ⟨by omega,trivial⟩|exact ⟨by omega,by omega⟩|rfl|exact And.intro rfl (by omega)|(dsimp only;omega)) ?_))<;>try (conv=>whnf)
  refine ⟨(((((p, y), v), m), K), M), ⟨hs, And.intro (prg_fit p (Nat.le_refl K)) (And.intro (rl_fit y (Nat.le_refl K)) (And.intro (rat_fit v (Nat.le_refl K)) (And.intro (And.intro (And.intro rfl (Nat.le_refl K)) True.intro) True.intro)))⟩, ?_⟩
  (repeat ((conv=>whnf);refine And.intro (by first|omega|exact True.intro|exact ⟨by omega,trivial⟩|exact ⟨by omega,by omega⟩|rfl|exact And.intro rfl (by omega)|(dsimp only;omega)) ?_))<;>try (conv=>whnf)
  refine And.intro (fun h4 => absurd h4 (by simp)) (fun _ => ?_)
  (repeat ((conv=>whnf);refine And.intro (by first|omega|exact True.intro|exact ⟨by omega,trivial⟩|exact ⟨by omega,by omega⟩|rfl|exact And.intro rfl (by omega)|(dsimp only;omega)) ?_))<;>try (conv=>whnf)
  refine ⟨((((p, shL p y v m), v), K + 2), M), ⟨hzy, And.intro (prg_fit p (by omega)) (And.intro (And.intro rfl (And.intro hzl.symm fun j _ => And.intro (And.intro rfl (.inl (Nat.le_refl _))) True.intro)) (And.intro (rat_fit v (by omega)) True.intro))⟩, ?_⟩
  (repeat ((conv=>whnf);refine And.intro (by first|omega|exact True.intro|exact ⟨by omega,trivial⟩|exact ⟨by omega,by omega⟩|rfl|exact And.intro rfl (by omega)|(dsimp only;omega)) ?_))<;>try (conv=>whnf)
  refine And.intro (fun h5 => absurd hzat (pbn h5)) (fun _ => ?_)
  (repeat ((conv=>whnf);refine And.intro (by first|omega|exact True.intro|exact ⟨by omega,trivial⟩|exact ⟨by omega,by omega⟩|rfl|exact And.intro rfl (by omega)|(dsimp only;omega)) ?_))<;>try (conv=>whnf)
  refine ⟨⟨Nat, fun i => i ≤ y.length, fun i => [.slot 11 (.val (.int .i64 (i : Int))), .slot 10 (.val (.bool (pb (∀ j, j < i → ((rg (shL p y v m) j).den : Int) ≤ m))))], fun i => y.length - i, 0⟩, 0, Nat.zero_le _, ?_⟩
  have hz0 : Value.bool true = Value.bool (pb (∀ j, j < 0 → ((rg (shL p y v m) j).den : Int) ≤ m)) := congrArg Value.bool (pb_t.2 fun j hj => by omega).symm
  conv => whnf
  refine And.intro ?_ ?_
  · all_goals (repeat' first|exact True.intro|exact rfl|apply And.intro|assumption|omega|(exact Or.inr (by assumption))|(refine congrArg (Value.int .i64) ?_;omega))
  conv => whnf
  rintro i h6
  (repeat ((conv=>whnf);refine And.intro (by first|omega|exact True.intro|exact ⟨by omega,trivial⟩|exact ⟨by omega,by omega⟩|rfl|exact And.intro rfl (by omega)|(dsimp only;omega)) ?_))<;>try (conv=>whnf)
  refine And.intro (fun h7 => ?_) (fun h7 => ?_)
  · have h8 : (i : Int) < y.length := of_decide_eq_true h7
    have w1 : IntKind.i64.wrap ((i : Int) + 1) = (i : Int) + 1 := w64 (by omega) (by omega)
    (repeat ((conv=>whnf);refine And.intro (by first|omega|exact True.intro|exact ⟨by omega,trivial⟩|exact ⟨by omega,by omega⟩|rfl|exact And.intro rfl (by omega)|(dsimp only;omega)) ?_))<;>try (conv=>whnf)
    refine And.intro (fun h9 => ?_) (fun h9 => ?_)
    · have h10 := pb_t.1 h9
      have hz1 : Value.bool (decide (cmpI ((rg (shL p y v m) i).den : Int) m ≤ 0)) = Value.bool (pb (∀ j, j < i + 1 → ((rg (shL p y v m) j).den : Int) ≤ m)) := by
        refine congrArg Value.bool (pb_of ?_).symm
        rw [decide_eq_true_iff, cmpZ_le]
        constructor
        · intro h j hj
          rcases Nat.lt_or_ge j i with hji | hji
          · exact h10 j hji
          · rw [show j = i by omega]; exact h
        · intro h; exact h i (by omega)
      (repeat ((conv=>whnf);refine And.intro (by first|omega|exact True.intro|exact ⟨by omega,trivial⟩|exact ⟨by omega,by omega⟩|rfl|exact And.intro rfl (by omega)|(dsimp only;omega)) ?_))<;>try (conv=>whnf)
      refine ⟨i + 1, (show i + 1 ≤ y.length by omega), (show y.length - (i + 1) < y.length - i by omega), ?_⟩
      conv => whnf
      all_goals (repeat' first|exact True.intro|exact rfl|apply And.intro|assumption|omega|(exact Or.inr (by assumption))|(refine congrArg (Value.int .i64) ?_;omega))
    · have h10 := pb_f.1 h9
      have hz1 : Value.bool false = Value.bool (pb (∀ j, j < i + 1 → ((rg (shL p y v m) j).den : Int) ≤ m)) := congrArg Value.bool (pb_f.2 fun h => h10 fun j hj => h j (by omega)).symm
      (repeat ((conv=>whnf);refine And.intro (by first|omega|exact True.intro|exact ⟨by omega,trivial⟩|exact ⟨by omega,by omega⟩|rfl|exact And.intro rfl (by omega)|(dsimp only;omega)) ?_))<;>try (conv=>whnf)
      refine ⟨i + 1, (show i + 1 ≤ y.length by omega), (show y.length - (i + 1) < y.length - i by omega), ?_⟩
      conv => whnf
      all_goals (repeat' first|exact True.intro|exact rfl|apply And.intro|assumption|omega|(exact Or.inr (by assumption))|(refine congrArg (Value.int .i64) ?_;omega))
  have h8 : ¬ (i : Int) < y.length := of_decide_eq_false h7
  obtain rfl : i = y.length := by omega
  (repeat ((conv=>whnf);refine And.intro (by first|omega|exact True.intro|exact ⟨by omega,trivial⟩|exact ⟨by omega,by omega⟩|rfl|exact And.intro rfl (by omega)|(dsimp only;omega)) ?_))<;>try (conv=>whnf)
  refine And.intro (fun h9 => ?_) (fun h9 => ?_)
  · (repeat ((conv=>whnf);refine And.intro (by first|omega|exact True.intro|exact ⟨by omega,trivial⟩|exact ⟨by omega,by omega⟩|rfl|exact And.intro rfl (by omega)|(dsimp only;omega)) ?_))<;>try (conv=>whnf)
    all_goals (repeat' first|exact True.intro|exact rfl|apply And.intro|assumption|omega|(exact Or.inr (by assumption))|(refine congrArg (Value.int .i64) ?_;omega))
  have hzy' : shL p y v m = y := by
    rcases hc with h | h
    · exact h
    · exact absurd (fun j _ => h.2.1 j) (pb_f.1 h9)
  (repeat ((conv=>whnf);refine And.intro (by first|omega|exact True.intro|exact ⟨by omega,trivial⟩|exact ⟨by omega,by omega⟩|rfl|exact And.intro rfl (by omega)|(dsimp only;omega)) ?_))<;>try (conv=>whnf)
  refine ⟨(y, K), ⟨⟨hl, by omega⟩, And.intro (rl_fit y (Nat.le_refl K)) True.intro⟩, ?_⟩
  (repeat ((conv=>whnf);refine And.intro (by first|omega|exact True.intro|exact ⟨by omega,trivial⟩|exact ⟨by omega,by omega⟩|rfl|exact And.intro rfl (by omega)|(dsimp only;omega)) ?_))<;>try (conv=>whnf)
  refine ⟨(((((rg (shL p y v m), y.length), K + 2), rg y), y.length), K), ⟨⟨hl, by omega, by omega⟩, And.intro (And.intro rfl (And.intro rfl (made_refl _ _ _))) (And.intro (And.intro rfl (And.intro rfl (made_refl _ _ _))) True.intro)⟩, ?_⟩
  (repeat ((conv=>whnf);refine And.intro (by first|omega|exact True.intro|exact ⟨by omega,trivial⟩|exact ⟨by omega,by omega⟩|rfl|exact And.intro rfl (by omega)|(dsimp only;omega)) ?_))<;>try (conv=>whnf)
  exact congrArg Value.bool (pb_t.2 ⟨rfl, fun i _ => by rw [hzy']⟩)

set_option maxRecDepth 100000 in
theorem kb12_walk {W : World} {v0 v1 v2 v3 : Value} {p : Prg} {y : List Rat} {v : Rat} {m : Int} (h0 : Rob (fun _ => False) W (prgAv p 1048576) [v0]) (h1 : Rob (fun _ => False) W (rlAv y 1048576) [v1]) (h2 : Rob (fun _ => False) W (rAv v 1048576) [v2]) (h3 : Rob (fun _ => False) W (nAv m 1048576) [v3]) {n0 n1 : Nat} (w0 : Wt (prgN p) n0) (w1 : Wt y n1) (b0 : PB p 1048576) (l1 : y.length ≤ 1048576) (hn : n0 + n1 ≤ 1048576) :
    Calls Tryz.prog 11 #[v0, v1, v2, v3] W (RetB W true) :=
  call_b (fn_ok (own := fun _ => False) (ctx_ok TT_ok [sml_s, catl_s, aw12_s, csh_s, rICmp_s, rCanon_s, rSame_s]) mixed_ok (fn := Tryz.f11) (by kernel_rfl) (kb12_x p y v m 1048576 (6 * 1048576 + 3) b0 (py_of b0 ((w0.app w1).mono (by omega)) (by decide)) (py_of (b0.up (by decide)) ((w0.app w1).mono (by omega)) (by decide)) (sh_of (a := n0) (b := 1048576 - n0) b0 w0 (w1.mono (by omega)) l1 (by decide) (by decide) (rl_sz h1 (by decide)) (by omega) |> fun h => by rw [show 6 * (n0 + (1048576 - n0)) + 3 = 6 * 1048576 + 3 by omega] at h; exact h)) (fun _ h => h.elim) (.cons h0 (.cons h1 (.cons h2 (.cons h3 .nil)))))
end Go.Proofs.YtfgkecffpkdjcaaGreat
