/- CertifyOneStatus by the executor. -/
import Derived.Test.YtfgkecffpkdjcaaGreatVI
import Derived.Test.YtfgkecffpkdjcaaGreatOC
namespace Go.Proofs.YtfgkecffpkdjcaaGreat
open Go.RowKit Gm Go.Vx


set_option smartUnfolding false in
set_option maxRecDepth 100000 in
theorem one12_x (p : Prg) (s1 : Int) (v1 : Rat) (x1 y1 r1 : List Rat) (b1 c1 : List Int) (s2 : Int) (v2 : Rat) (x2 y2 r2 : List Rat) (b2 c2 : List Int) (K M : Nat) (hb : PB p K) (h1s : PS p x1 y1 r1 K M) (h2s : PS p x2 y2 r2 K M) (hK : K ≤ 1048576) : fnOk ⟨TT, specsOf [sml_s, csol_s, aw12_s, rRCmp_s]⟩ Tryz.f15 [prgAv p K, .agg (solC s1 v1 x1 y1 r1 b1 c1 K), .agg (solC s2 v2 x2 y2 r2 b2 c2 K)] (.val (.bool true)) := by
  (repeat ((conv=>whnf);refine And.intro (by first|omega|exact True.intro|exact ⟨by omega,trivial⟩|exact ⟨by omega,by omega⟩|rfl|exact And.intro rfl (by omega)|(dsimp only;omega)) ?_))<;>try (conv=>whnf)
  refine ⟨(p, K), ⟨hb, And.intro (prg_fit p (Nat.le_refl K)) True.intro⟩, ?_⟩
  (repeat ((conv=>whnf);refine And.intro (by first|omega|exact True.intro|exact ⟨by omega,trivial⟩|exact ⟨by omega,by omega⟩|rfl|exact And.intro rfl (by omega)|(dsimp only;omega)) ?_))<;>try (conv=>whnf)
  refine And.intro (fun h1=>?_) (fun h1=>?_)
  · (repeat ((conv=>whnf);refine And.intro (by first|omega|exact True.intro|exact ⟨by omega,trivial⟩|exact ⟨by omega,by omega⟩|rfl|exact And.intro rfl (by omega)|(dsimp only;omega)) ?_))<;>try (conv=>whnf)
    all_goals (repeat' first|exact True.intro|exact rfl|apply And.intro|assumption|omega|(exact Or.inr (by assumption))|(refine congrArg (Value.int .i64) ?_;omega))
  (repeat ((conv=>whnf);refine And.intro (by first|omega|exact True.intro|exact ⟨by omega,trivial⟩|exact ⟨by omega,by omega⟩|rfl|exact And.intro rfl (by omega)|(dsimp only;omega)) ?_))<;>try (conv=>whnf)
  refine ⟨(((((((((p, s1), v1), x1), y1), r1), b1), c1), K), M), ⟨h1s, And.intro (prg_fit p (Nat.le_refl K)) (And.intro (sol_fit _ _ _ _ _ _ _ (Nat.le_refl K)) True.intro)⟩, ?_⟩
  (repeat ((conv=>whnf);refine And.intro (by first|omega|exact True.intro|exact ⟨by omega,trivial⟩|exact ⟨by omega,by omega⟩|rfl|exact And.intro rfl (by omega)|(dsimp only;omega)) ?_))<;>try (conv=>whnf)
  refine And.intro (fun h2 => ?_) (fun h2 => ?_)
  · (repeat ((conv=>whnf);refine And.intro (by first|omega|exact True.intro|exact ⟨by omega,trivial⟩|exact ⟨by omega,by omega⟩|rfl|exact And.intro rfl (by omega)|(dsimp only;omega)) ?_))<;>try (conv=>whnf)
    all_goals (repeat' first|exact True.intro|exact rfl|apply And.intro|assumption|omega|(exact Or.inr (by assumption))|(refine congrArg (Value.int .i64) ?_;omega))
  (repeat ((conv=>whnf);refine And.intro (by first|omega|exact True.intro|exact ⟨by omega,trivial⟩|exact ⟨by omega,by omega⟩|rfl|exact And.intro rfl (by omega)|(dsimp only;omega)) ?_))<;>try (conv=>whnf)
  refine ⟨(((((((((p, s2), v2), x2), y2), r2), b2), c2), K), M), ⟨h2s, And.intro (prg_fit p (Nat.le_refl K)) (And.intro (sol_fit _ _ _ _ _ _ _ (Nat.le_refl K)) True.intro)⟩, ?_⟩
  (repeat ((conv=>whnf);refine And.intro (by first|omega|exact True.intro|exact ⟨by omega,trivial⟩|exact ⟨by omega,by omega⟩|rfl|exact And.intro rfl (by omega)|(dsimp only;omega)) ?_))<;>try (conv=>whnf)
  refine And.intro (fun h3 => ?_) (fun h3 => ?_)
  · (repeat ((conv=>whnf);refine And.intro (by first|omega|exact True.intro|exact ⟨by omega,trivial⟩|exact ⟨by omega,by omega⟩|rfl|exact And.intro rfl (by omega)|(dsimp only;omega)) ?_))<;>try (conv=>whnf)
    all_goals (repeat' first|exact True.intro|exact rfl|apply And.intro|assumption|omega|(exact Or.inr (by assumption))|(refine congrArg (Value.int .i64) ?_;omega))
  have ho := (pbnf h2).one (pbnf h3)
  (repeat ((conv=>whnf);refine And.intro (by first|omega|exact True.intro|exact ⟨by omega,trivial⟩|exact ⟨by omega,by omega⟩|rfl|exact And.intro rfl (by omega)|(dsimp only;omega)) ?_))<;>try (conv=>whnf)
  refine And.intro (fun _ => ?_) (fun h => absurd ((beq_iff_eq.2 ho.1).symm.trans h) (by decide))
  (repeat ((conv=>whnf);refine And.intro (by first|omega|exact True.intro|exact ⟨by omega,trivial⟩|exact ⟨by omega,by omega⟩|rfl|exact And.intro rfl (by omega)|(dsimp only;omega)) ?_))<;>try (conv=>whnf)
  exact congrArg Value.bool ((deq _ _).trans (pb_t.2 ho.2))

set_option maxRecDepth 100000 in
theorem one12_walk {W : World} {v0 v1 v2 : Value} {p : Prg} {a : SolD} {b : SolD} (h0 : Rob (fun _ => False) W (prgAv p 1048576) [v0]) (h1 : Rob (fun _ => False) W (.agg (a.av 1048576)) [v1]) (h2 : Rob (fun _ => False) W (.agg (b.av 1048576)) [v2]) {n0 m1 m2 m3 k1 k2 k3 : Nat} (w0 : Wt (prgN p) n0) (u1 : Wt a.x m1) (u2 : Wt a.y m2) (u3 : Wt a.r m3) (z1 : Wt b.x k1) (z2 : Wt b.y k2) (z3 : Wt b.r k3) (b0 : PB p 1048576) (hn : n0 + (m1 + m2 + m3) + (k1 + k2 + k3) ≤ 1048576) :
    Calls Tryz.prog 15 #[v0, v1, v2] W (RetB W true) :=
  call_b (fn_ok (own := fun _ => False) (ctx_ok TT_ok [sml_s, csol_s, aw12_s, rRCmp_s]) mixed_ok (fn := Tryz.f15) (by kernel_rfl) (one12_x p a.s a.v a.x a.y a.r a.b a.c b.s b.v b.x b.y b.r b.b b.c 1048576 (6 * 1048576 + 3) b0 ⟨(px_of b0 ((w0.app u1).mono (by omega)) (by decide)), (px_of b0 ((w0.app u3).mono (by omega)) (by decide)), (py_of b0 ((w0.app u2).mono (by omega)) (by decide)), (py_of (pb_free b0) (((wt_free w0).app u2).mono (by omega)) (by decide)), by decide⟩ ⟨(px_of b0 ((w0.app z1).mono (by omega)) (by decide)), (px_of b0 ((w0.app z3).mono (by omega)) (by decide)), (py_of b0 ((w0.app z2).mono (by omega)) (by decide)), (py_of (pb_free b0) (((wt_free w0).app z2).mono (by omega)) (by decide)), by decide⟩ (by decide)) (fun _ h => h.elim) (.cons h0 (.cons h1 (.cons h2 .nil))))
end Go.Proofs.YtfgkecffpkdjcaaGreat
