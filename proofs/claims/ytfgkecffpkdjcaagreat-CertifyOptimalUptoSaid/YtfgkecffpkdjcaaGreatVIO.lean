/- CertifyInfeasible, CertifyOptimal by the executor. -/
import Derived.Test.YtfgkecffpkdjcaaGreatVI
namespace Go.Proofs.YtfgkecffpkdjcaaGreat
open Go.RowKit Gm Go.Vx


theorem AtL.self {p : Prg} {x y : List Rat} (h : Opt p x y) : AtL p y (obj p x) := ⟨h.2.1, by rw [h.2.2]; exact Rat.le_refl⟩
theorem AtL.no {p : Prg} {x y z : List Rat} (h : Opt p x y) : ¬ AtL p z (obj p x + mkRat 1 (Int.toNat 1000)) := fun hz => by
  have h1 := h.ge hz.1
  have h2 := hz.2
  have h3 : (0 : Rat) < mkRat 1 (Int.toNat 1000) := by decide
  grind
set_option smartUnfolding false in
set_option maxRecDepth 100000 in
theorem inf12_x (p : Prg) (y x z ray : List Rat) (K M : Nat) (hb : PB p K) (hf : PY p.free y K M) (hx : PX p x K M) (hz : PY p z K M) (hr : PX p ray K M) (h2K : 2 ≤ K) : fnOk ⟨TT, specsOf [sml_s, cinf_s, aw12_s, wfea_s, copt_s, cunb_s]⟩ Tryz.f12 [prgAv p K, rlAv y K, rlAv x K, rlAv z K, rlAv ray K] (.val (.bool true)) := by
  (repeat ((conv=>whnf);refine And.intro (by first|omega|exact True.intro|exact ⟨by omega,trivial⟩|exact ⟨by omega,by omega⟩|rfl|exact And.intro rfl (by omega)|(dsimp only;omega)) ?_))<;>try (conv=>whnf)
  refine ⟨(p, K), ⟨hb, And.intro (prg_fit p (Nat.le_refl K)) True.intro⟩, ?_⟩
  (repeat ((conv=>whnf);refine And.intro (by first|omega|exact True.intro|exact ⟨by omega,trivial⟩|exact ⟨by omega,by omega⟩|rfl|exact And.intro rfl (by omega)|(dsimp only;omega)) ?_))<;>try (conv=>whnf)
  refine And.intro (fun h1=>?_) (fun h1=>?_)
  · (repeat ((conv=>whnf);refine And.intro (by first|omega|exact True.intro|exact ⟨by omega,trivial⟩|exact ⟨by omega,by omega⟩|rfl|exact And.intro rfl (by omega)|(dsimp only;omega)) ?_))<;>try (conv=>whnf)
    all_goals (repeat' first|exact True.intro|exact rfl|apply And.intro|assumption|omega|(exact Or.inr (by assumption))|(refine congrArg (Value.int .i64) ?_;omega))
  (repeat ((conv=>whnf);refine And.intro (by first|omega|exact True.intro|exact ⟨by omega,trivial⟩|exact ⟨by omega,by omega⟩|rfl|exact And.intro rfl (by omega)|(dsimp only;omega)) ?_))<;>try (conv=>whnf)
  refine ⟨(((p, y), K), M), ⟨⟨hf, h2K⟩, And.intro (prg_fit p (Nat.le_refl K)) (And.intro (rl_fit y (Nat.le_refl K)) (True.intro))⟩, ?_⟩
  (repeat ((conv=>whnf);refine And.intro (by first|omega|exact True.intro|exact ⟨by omega,trivial⟩|exact ⟨by omega,by omega⟩|rfl|exact And.intro rfl (by omega)|(dsimp only;omega)) ?_))<;>try (conv=>whnf)
  refine And.intro (fun h2 => ?_) (fun h2 => ?_)
  · (repeat ((conv=>whnf);refine And.intro (by first|omega|exact True.intro|exact ⟨by omega,trivial⟩|exact ⟨by omega,by omega⟩|rfl|exact And.intro rfl (by omega)|(dsimp only;omega)) ?_))<;>try (conv=>whnf)
    all_goals (repeat' first|exact True.intro|exact rfl|apply And.intro|assumption|omega|(exact Or.inr (by assumption))|(refine congrArg (Value.int .i64) ?_;omega))
  have hi : Infs p y := pbnf h2
  (repeat ((conv=>whnf);refine And.intro (by first|omega|exact True.intro|exact ⟨by omega,trivial⟩|exact ⟨by omega,by omega⟩|rfl|exact And.intro rfl (by omega)|(dsimp only;omega)) ?_))<;>try (conv=>whnf)
  refine ⟨(((p, x), K), M), ⟨hx, And.intro (prg_fit p (Nat.le_refl K)) (And.intro (rl_fit x (Nat.le_refl K)) (True.intro))⟩, ?_⟩
  (repeat ((conv=>whnf);refine And.intro (by first|omega|exact True.intro|exact ⟨by omega,trivial⟩|exact ⟨by omega,by omega⟩|rfl|exact And.intro rfl (by omega)|(dsimp only;omega)) ?_))<;>try (conv=>whnf)
  refine And.intro (fun _ => ?_) (fun h3 => absurd (pbnf h3) hi.no)
  (repeat ((conv=>whnf);refine And.intro (by first|omega|exact True.intro|exact ⟨by omega,trivial⟩|exact ⟨by omega,by omega⟩|rfl|exact And.intro rfl (by omega)|(dsimp only;omega)) ?_))<;>try (conv=>whnf)
  refine ⟨((((p, x), z), K), M), ⟨⟨hx, hz⟩, And.intro (prg_fit p (Nat.le_refl K)) (And.intro (rl_fit x (Nat.le_refl K)) (And.intro (rl_fit z (Nat.le_refl K)) (True.intro)))⟩, ?_⟩
  (repeat ((conv=>whnf);refine And.intro (by first|omega|exact True.intro|exact ⟨by omega,trivial⟩|exact ⟨by omega,by omega⟩|rfl|exact And.intro rfl (by omega)|(dsimp only;omega)) ?_))<;>try (conv=>whnf)
  refine And.intro (fun _ => ?_) (fun h3 => absurd (pbnf h3).1 hi.no)
  (repeat ((conv=>whnf);refine And.intro (by first|omega|exact True.intro|exact ⟨by omega,trivial⟩|exact ⟨by omega,by omega⟩|rfl|exact And.intro rfl (by omega)|(dsimp only;omega)) ?_))<;>try (conv=>whnf)
  refine ⟨((((p, x), ray), K), M), ⟨⟨hx, hr⟩, And.intro (prg_fit p (Nat.le_refl K)) (And.intro (rl_fit x (Nat.le_refl K)) (And.intro (rl_fit ray (Nat.le_refl K)) (True.intro)))⟩, ?_⟩
  (repeat ((conv=>whnf);refine And.intro (by first|omega|exact True.intro|exact ⟨by omega,trivial⟩|exact ⟨by omega,by omega⟩|rfl|exact And.intro rfl (by omega)|(dsimp only;omega)) ?_))<;>try (conv=>whnf)
  exact congrArg Value.bool (npb fun h => hi.no h.f)

set_option smartUnfolding false in
set_option maxRecDepth 100000 in
theorem opt12_x (p : Prg) (x y o z : List Rat) (K M : Nat) (hb : PB p K) (hx : PX p x K M) (hy : PY p y K M) (ho : PX p o K M) (hz : PY p z (M + 6) M) (hM : M ≤ 8388608) (hK : K ≤ M) : fnOk ⟨TT, specsOf [sml_s, copt_s, aw12_s, wobj_s, wfea_s, rRCmp_s, catl_s, rROf_s, rRAdd_s]⟩ Tryz.f9 [prgAv p K, rlAv x K, rlAv y K, rlAv o K, rlAv z K] (.val (.bool true)) := by
  have hm := hx.hm
  have hvM := hx.o p.cols.length (Nat.le_refl _)
  (repeat ((conv=>whnf);refine And.intro (by first|omega|exact True.intro|exact ⟨by omega,trivial⟩|exact ⟨by omega,by omega⟩|rfl|exact And.intro rfl (by omega)|(dsimp only;omega)) ?_))<;>try (conv=>whnf)
  refine ⟨(p, K), ⟨hb, And.intro (prg_fit p (Nat.le_refl K)) True.intro⟩, ?_⟩
  (repeat ((conv=>whnf);refine And.intro (by first|omega|exact True.intro|exact ⟨by omega,trivial⟩|exact ⟨by omega,by omega⟩|rfl|exact And.intro rfl (by omega)|(dsimp only;omega)) ?_))<;>try (conv=>whnf)
  refine And.intro (fun h1=>?_) (fun h1=>?_)
  · (repeat ((conv=>whnf);refine And.intro (by first|omega|exact True.intro|exact ⟨by omega,trivial⟩|exact ⟨by omega,by omega⟩|rfl|exact And.intro rfl (by omega)|(dsimp only;omega)) ?_))<;>try (conv=>whnf)
    all_goals (repeat' first|exact True.intro|exact rfl|apply And.intro|assumption|omega|(exact Or.inr (by assumption))|(refine congrArg (Value.int .i64) ?_;omega))
  (repeat ((conv=>whnf);refine And.intro (by first|omega|exact True.intro|exact ⟨by omega,trivial⟩|exact ⟨by omega,by omega⟩|rfl|exact And.intro rfl (by omega)|(dsimp only;omega)) ?_))<;>try (conv=>whnf)
  refine ⟨((((p, x), y), K), M), ⟨⟨hx, hy⟩, And.intro (prg_fit p (Nat.le_refl K)) (And.intro (rl_fit x (Nat.le_refl K)) (And.intro (rl_fit y (Nat.le_refl K)) (True.intro)))⟩, ?_⟩
  (repeat ((conv=>whnf);refine And.intro (by first|omega|exact True.intro|exact ⟨by omega,trivial⟩|exact ⟨by omega,by omega⟩|rfl|exact And.intro rfl (by omega)|(dsimp only;omega)) ?_))<;>try (conv=>whnf)
  refine And.intro (fun h2 => ?_) (fun h2 => ?_)
  · (repeat ((conv=>whnf);refine And.intro (by first|omega|exact True.intro|exact ⟨by omega,trivial⟩|exact ⟨by omega,by omega⟩|rfl|exact And.intro rfl (by omega)|(dsimp only;omega)) ?_))<;>try (conv=>whnf)
    all_goals (repeat' first|exact True.intro|exact rfl|apply And.intro|assumption|omega|(exact Or.inr (by assumption))|(refine congrArg (Value.int .i64) ?_;omega))
  have hi : Opt p x y := pbnf h2
  (repeat ((conv=>whnf);refine And.intro (by first|omega|exact True.intro|exact ⟨by omega,trivial⟩|exact ⟨by omega,by omega⟩|rfl|exact And.intro rfl (by omega)|(dsimp only;omega)) ?_))<;>try (conv=>whnf)
  refine ⟨(((p, x), K), M), ⟨⟨hx, hi.1.n⟩, And.intro (prg_fit p (Nat.le_refl K)) (And.intro (rl_fit x (Nat.le_refl K)) (True.intro))⟩, ?_⟩
  have hyM : PY p y M M := ⟨hy.b.up (by omega), hy.hM, hy.hm, hy.r, hy.e, hy.h, hy.s⟩
  have no := @AtL.no p x y z hi
  have fitM : ∀ w : List Rat, Go.Vx.fits [prgAv p M, rlAv w M, rAv (obj p x) M] [prgAv p K, rlAv w K, .agg (.cons (.ratC (obj p x) M) .nil)] := fun w => And.intro (prg_fit p hK) (And.intro (rl_fit w hK) (And.intro (And.intro (And.intro rfl (.inl (Nat.le_refl M))) True.intro) True.intro))
  have fitN : ∀ w : List Rat, Go.Vx.fits [prgAv p (M + 6), rlAv w (M + 6), rAv (obj p x + mkRat 1 (Int.toNat 1000)) (M + 6)] [prgAv p K, rlAv w K, .agg (.cons (.ratC (obj p x + mkRat 1 (Int.toNat 1000)) (M + 5 + 1)) .nil)] := fun w => And.intro (prg_fit p (by omega)) (And.intro (rl_fit w (by omega)) (And.intro (And.intro (And.intro rfl (.inl (Nat.le_refl _))) True.intro) True.intro))
  (repeat ((conv=>whnf);refine And.intro (by first|omega|exact True.intro|exact ⟨by omega,trivial⟩|exact ⟨by omega,by omega⟩|rfl|exact And.intro rfl (by omega)|(dsimp only;omega)) ?_))<;>try (conv=>whnf)
  refine And.intro (fun h3 => ?_) (fun h3 => ?_)
  · have hlen : o.length = p.cols.length := by have := eq_of_beq h3; exact Int.ofNat.inj this
    (repeat ((conv=>whnf);refine And.intro (by first|omega|exact True.intro|exact ⟨by omega,trivial⟩|exact ⟨by omega,by omega⟩|rfl|exact And.intro rfl (by omega)|(dsimp only;omega)) ?_))<;>try (conv=>whnf)
    refine ⟨(((p, o), K), M), ⟨ho, And.intro (prg_fit p (Nat.le_refl K)) (And.intro (rl_fit o (Nat.le_refl K)) (True.intro))⟩, ?_⟩
    (repeat ((conv=>whnf);refine And.intro (by first|omega|exact True.intro|exact ⟨by omega,trivial⟩|exact ⟨by omega,by omega⟩|rfl|exact And.intro rfl (by omega)|(dsimp only;omega)) ?_))<;>try (conv=>whnf)
    refine And.intro (fun h4 => ?_) (fun h4 => ?_)
    · have hfo : Feas p o := pb_t.1 h4
      (repeat ((conv=>whnf);refine And.intro (by first|omega|exact True.intro|exact ⟨by omega,trivial⟩|exact ⟨by omega,by omega⟩|rfl|exact And.intro rfl (by omega)|(dsimp only;omega)) ?_))<;>try (conv=>whnf)
      refine ⟨(((p, o), K), M), ⟨⟨ho, hlen⟩, And.intro (prg_fit p (Nat.le_refl K)) (And.intro (rl_fit o (Nat.le_refl K)) (True.intro))⟩, ?_⟩
      (repeat ((conv=>whnf);refine And.intro (by first|omega|exact True.intro|exact ⟨by omega,trivial⟩|exact ⟨by omega,by omega⟩|rfl|exact And.intro rfl (by omega)|(dsimp only;omega)) ?_))<;>try (conv=>whnf)
      refine And.intro (fun h5 => absurd (cmpR_lt.1 (of_decide_eq_true h5)) (Rat.not_lt.2 (hi.le hfo))) (fun _ => ?_)
      (repeat ((conv=>whnf);refine And.intro (by first|omega|exact True.intro|exact ⟨by omega,trivial⟩|exact ⟨by omega,by omega⟩|rfl|exact And.intro rfl (by omega)|(dsimp only;omega)) ?_))<;>try (conv=>whnf)
      refine ⟨((((p, y), obj p x), M), M), ⟨hyM, fitM y⟩, ?_⟩
      (repeat ((conv=>whnf);refine And.intro (by first|omega|exact True.intro|exact ⟨by omega,trivial⟩|exact ⟨by omega,by omega⟩|rfl|exact And.intro rfl (by omega)|(dsimp only;omega)) ?_))<;>try (conv=>whnf)
      refine And.intro (fun _ => ?_) (fun h => absurd (AtL.self hi) (pb_f.1 h))
      (repeat ((conv=>whnf);refine And.intro (by first|omega|exact True.intro|exact ⟨by omega,trivial⟩|exact ⟨by omega,by omega⟩|rfl|exact And.intro rfl (by omega)|(dsimp only;omega)) ?_))<;>try (conv=>whnf)
      refine ⟨((((p, z), obj p x + mkRat 1 (Int.toNat 1000)), M + 6), M), ⟨hz, fitN z⟩, ?_⟩
      (repeat ((conv=>whnf);refine And.intro (by first|omega|exact True.intro|exact ⟨by omega,trivial⟩|exact ⟨by omega,by omega⟩|rfl|exact And.intro rfl (by omega)|(dsimp only;omega)) ?_))<;>try (conv=>whnf)
      exact congrArg Value.bool (npb no)
    · (repeat ((conv=>whnf);refine And.intro (by first|omega|exact True.intro|exact ⟨by omega,trivial⟩|exact ⟨by omega,by omega⟩|rfl|exact And.intro rfl (by omega)|(dsimp only;omega)) ?_))<;>try (conv=>whnf)
      refine ⟨((((p, y), obj p x), M), M), ⟨hyM, fitM y⟩, ?_⟩
      (repeat ((conv=>whnf);refine And.intro (by first|omega|exact True.intro|exact ⟨by omega,trivial⟩|exact ⟨by omega,by omega⟩|rfl|exact And.intro rfl (by omega)|(dsimp only;omega)) ?_))<;>try (conv=>whnf)
      refine And.intro (fun _ => ?_) (fun h => absurd (AtL.self hi) (pb_f.1 h))
      (repeat ((conv=>whnf);refine And.intro (by first|omega|exact True.intro|exact ⟨by omega,trivial⟩|exact ⟨by omega,by omega⟩|rfl|exact And.intro rfl (by omega)|(dsimp only;omega)) ?_))<;>try (conv=>whnf)
      refine ⟨((((p, z), obj p x + mkRat 1 (Int.toNat 1000)), M + 6), M), ⟨hz, fitN z⟩, ?_⟩
      (repeat ((conv=>whnf);refine And.intro (by first|omega|exact True.intro|exact ⟨by omega,trivial⟩|exact ⟨by omega,by omega⟩|rfl|exact And.intro rfl (by omega)|(dsimp only;omega)) ?_))<;>try (conv=>whnf)
      exact congrArg Value.bool (npb no)
  · (repeat ((conv=>whnf);refine And.intro (by first|omega|exact True.intro|exact ⟨by omega,trivial⟩|exact ⟨by omega,by omega⟩|rfl|exact And.intro rfl (by omega)|(dsimp only;omega)) ?_))<;>try (conv=>whnf)
    refine ⟨((((p, y), obj p x), M), M), ⟨hyM, fitM y⟩, ?_⟩
    (repeat ((conv=>whnf);refine And.intro (by first|omega|exact True.intro|exact ⟨by omega,trivial⟩|exact ⟨by omega,by omega⟩|rfl|exact And.intro rfl (by omega)|(dsimp only;omega)) ?_))<;>try (conv=>whnf)
    refine And.intro (fun _ => ?_) (fun h => absurd (AtL.self hi) (pb_f.1 h))
    (repeat ((conv=>whnf);refine And.intro (by first|omega|exact True.intro|exact ⟨by omega,trivial⟩|exact ⟨by omega,by omega⟩|rfl|exact And.intro rfl (by omega)|(dsimp only;omega)) ?_))<;>try (conv=>whnf)
    refine ⟨((((p, z), obj p x + mkRat 1 (Int.toNat 1000)), M + 6), M), ⟨hz, fitN z⟩, ?_⟩
    (repeat ((conv=>whnf);refine And.intro (by first|omega|exact True.intro|exact ⟨by omega,trivial⟩|exact ⟨by omega,by omega⟩|rfl|exact And.intro rfl (by omega)|(dsimp only;omega)) ?_))<;>try (conv=>whnf)
    exact congrArg Value.bool (npb no)

set_option maxRecDepth 100000 in
theorem inf12_walk {W : World} {v0 v1 v2 v3 v4 : Value} {p : Prg} {y : List Rat} {x : List Rat} {z : List Rat} {ray : List Rat} (h0 : Rob (fun _ => False) W (prgAv p 1048576) [v0]) (h1 : Rob (fun _ => False) W (rlAv y 1048576) [v1]) (h2 : Rob (fun _ => False) W (rlAv x 1048576) [v2]) (h3 : Rob (fun _ => False) W (rlAv z 1048576) [v3]) (h4 : Rob (fun _ => False) W (rlAv ray 1048576) [v4]) {n0 n1 n2 n3 n4 : Nat} (w0 : Wt (prgN p) n0) (w1 : Wt y n1) (w2 : Wt x n2) (w3 : Wt z n3) (w4 : Wt ray n4) (b0 : PB p 1048576) (hn : n0 + n1 + n2 + n3 + n4 ≤ 1048576) :
    Calls Tryz.prog 12 #[v0, v1, v2, v3, v4] W (RetB W true) :=
  call_b (fn_ok (own := fun _ => False) (ctx_ok TT_ok [sml_s, cinf_s, aw12_s, wfea_s, copt_s, cunb_s]) mixed_ok (fn := Tryz.f12) (by kernel_rfl) (inf12_x p y x z ray 1048576 (6 * 1048576 + 3) b0 (py_of (pb_free b0) (((wt_free w0).app w1).mono (by omega)) (by decide)) (px_of b0 ((w0.app w2).mono (by omega)) (by decide)) (py_of b0 ((w0.app w3).mono (by omega)) (by decide)) (px_of b0 ((w0.app w4).mono (by omega)) (by decide)) (by decide)) (fun _ h => h.elim) (.cons h0 (.cons h1 (.cons h2 (.cons h3 (.cons h4 .nil))))))

set_option maxRecDepth 100000 in
theorem opt12_walk {W : World} {v0 v1 v2 v3 v4 : Value} {p : Prg} {x : List Rat} {y : List Rat} {o : List Rat} {z : List Rat} (h0 : Rob (fun _ => False) W (prgAv p 1048576) [v0]) (h1 : Rob (fun _ => False) W (rlAv x 1048576) [v1]) (h2 : Rob (fun _ => False) W (rlAv y 1048576) [v2]) (h3 : Rob (fun _ => False) W (rlAv o 1048576) [v3]) (h4 : Rob (fun _ => False) W (rlAv z 1048576) [v4]) {n0 n1 n2 n3 n4 : Nat} (w0 : Wt (prgN p) n0) (w1 : Wt x n1) (w2 : Wt y n2) (w3 : Wt o n3) (w4 : Wt z n4) (b0 : PB p 1048576) (hn : n0 + n1 + n2 + n3 + n4 ≤ 1048576) :
    Calls Tryz.prog 9 #[v0, v1, v2, v3, v4] W (RetB W true) :=
  call_b (fn_ok (own := fun _ => False) (ctx_ok TT_ok [sml_s, copt_s, aw12_s, wobj_s, wfea_s, rRCmp_s, catl_s, rROf_s, rRAdd_s]) mixed_ok (fn := Tryz.f9) (by kernel_rfl) (opt12_x p x y o z 1048576 (6 * 1048576 + 3) b0 (px_of b0 ((w0.app w1).mono (by omega)) (by decide)) (py_of b0 ((w0.app w2).mono (by omega)) (by decide)) (px_of b0 ((w0.app w3).mono (by omega)) (by decide)) (py_of (b0.up (by decide)) ((w0.app w4).mono (by omega)) (by decide)) (by decide) (by decide)) (fun _ h => h.elim) (.cons h0 (.cons h1 (.cons h2 (.cons h3 (.cons h4 .nil))))))
end Go.Proofs.YtfgkecffpkdjcaaGreat
