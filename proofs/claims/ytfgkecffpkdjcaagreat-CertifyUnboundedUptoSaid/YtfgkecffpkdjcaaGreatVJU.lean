/- CertifyUnbounded by the executor. -/
import Derived.Test.YtfgkecffpkdjcaaGreatVI
import Derived.Test.YtfgkecffpkdjcaaGreatOC
import Derived.Test.YtfgkecffpkdjcaaGreatVOB
namespace Go.Proofs.YtfgkecffpkdjcaaGreat
open Go.RowKit Gm Go.Vx

theorem px_cl {p : Prg} {x l : List Rat} {N c K : Nat} (hb : PB p K) (hw : Wt l N) (hN : N ≤ 8388608) (hl : ∀ q, q ∈ prgN p → q ∈ l) (hx : ∀ j, Cl (dProd l) (dProd l * nProd l) 1 c (rg x j)) (hc : c ≤ 65536) : PX p x K (6 * N + 3) := by
  have hp := pin_of hl
  have b1 := hb.c
  have hB3 : 1048576 * 65536 < Ba ^ 3 := by rw [Ba_eq]; decide
  refine ⟨hb, by omega, by omega, fun n hn => ?_, fun i n hn => ?_⟩
  · have h1 : Cl (dProd l) (dProd l * nProd l) 2 (n * (1 * c)) (osum p x n) := Cl.sum fun k _ => (hp.cost k).mul (hx _)
    have h2 : n * (1 * c) ≤ 1048576 * 65536 := Nat.mul_le_mul (by omega) (by omega)
    exact (h1.sz hw (by omega)).mono (by omega)
  · have h1 : Cl (dProd l) (dProd l * nProd l) 2 (n * (1 * c)) (asum (p.row i) x n) := Cl.sum fun k _ => (hp.vl i k).mul (hx _)
    have h2 : n * (1 * c) ≤ 1048576 * 65536 := Nat.mul_le_mul (by have := hb.e i; omega) (by omega)
    exact (h1.sz hw (by omega)).mono (by omega)
theorem rg_far (n : Nat) (x ray : List Rat) (t : Rat) (j : Nat) : rg (farP n x ray t) j = if j < n then rg x j + t * rg ray j else 0 := by
  conv => lhs; unfold rg farP
  rw [List.getD_eq_getElem?_getD, List.getElem?_map]
  by_cases h : j < n
  · rw [List.getElem?_range h, if_pos h]; rfl
  · rw [List.getElem?_eq_none (by simpa using h), if_neg h]; rfl
theorem px_far {p : Prg} {x ray : List Rat} {a b c K : Nat} {k : Int} (hb : PB p K) (hp : Wt (prgN p) a) (hx : Wt x b) (hr : Wt ray c) (hN : a + b + c ≤ 1048576) (hk : 0 ≤ k ∧ k ≤ 65535) : PX p (farP p.cols.length x ray (mkRat k 1)) K (6 * 1048576 + 3) := by
  have hw := ((hp.app hx).app hr).mono (b := 1048576) (by omega)
  refine px_cl (c := 65536) hb hw (by decide) (fun q hq => by simp [hq]) (fun j => ?_) (Nat.le_refl _)
  have h1 := xin_of (x := x) (l := prgN p ++ x ++ ray) (fun q hq => by simp [hq]) j
  have h2 := xin_of (x := ray) (l := prgN p ++ x ++ ray) (fun q hq => by simp [hq]) j
  rw [rg_far]
  split
  · have h3 : Cl (dProd (prgN p ++ x ++ ray)) (dProd (prgN p ++ x ++ ray) * nProd (prgN p ++ x ++ ray)) 0 65535 (mkRat k 1) := ⟨k, by rw [Nat.pow_zero], by rw [Nat.pow_zero]; omega⟩
    have h4 := h3.mul h2
    rw [Nat.zero_add, Nat.mul_one] at h4
    exact h1.add h4
  · exact Cl.zero _ _ _ _
set_option maxHeartbeats 4000000 in
set_option smartUnfolding false in
set_option maxRecDepth 100000 in
theorem unb12_x (p : Prg) (x ray y : List Rat) (k : Int) (K M : Nat) (hk : 0 ≤ k ∧ k ≤ 65535) (hb : PB p K) (hx : PX p x K M) (hr : PX p ray K M) (hy : PY p y K M) (hf : PX p (farP p.cols.length x ray (mkRat k 1)) (2 * K + 6) M) (hK : K ≤ 1048576) : fnOk ⟨TT, specsOf [sml_s, cunb_s, aw12_s, rRFromInt_s, rRMul_s, rRAdd_s, wbnd_s, wfea_s, wobj_s, rRCmp_s]⟩ Tryz.f13 [prgAv p K, rlAv x K, rlAv ray K, rlAv y K, .val (.int .u16 k)] (.val (.bool true)) := by
  have b0 := hb.c
  have hM := hx.hM
  have w0 : IntKind.i64.wrap k = k := w64 (by omega) (by omega)
  (repeat ((conv=>whnf);refine And.intro (by first|omega|exact True.intro|exact ⟨by omega,trivial⟩|exact ⟨by omega,by omega⟩|rfl|exact And.intro rfl (by omega)|(dsimp only;omega)) ?_))<;>try (conv=>whnf)
  refine ⟨(p, K), ⟨hb, And.intro (prg_fit p (Nat.le_refl K)) True.intro⟩, ?_⟩
  (repeat ((conv=>whnf);refine And.intro (by first|omega|exact True.intro|exact ⟨by omega,trivial⟩|exact ⟨by omega,by omega⟩|rfl|exact And.intro rfl (by omega)|(dsimp only;omega)) ?_))<;>try (conv=>whnf)
  refine And.intro (fun h1=>?_) (fun h1=>?_)
  · (repeat ((conv=>whnf);refine And.intro (by first|omega|exact True.intro|exact ⟨by omega,trivial⟩|exact ⟨by omega,by omega⟩|rfl|exact And.intro rfl (by omega)|(dsimp only;omega)) ?_))<;>try (conv=>whnf)
    all_goals (repeat' first|exact True.intro|exact rfl|apply And.intro|assumption|omega|(exact Or.inr (by assumption))|(refine congrArg (Value.int .i64) ?_;omega))
  (repeat ((conv=>whnf);refine And.intro (by first|omega|exact True.intro|exact ⟨by omega,trivial⟩|exact ⟨by omega,by omega⟩|rfl|exact And.intro rfl (by omega)|(dsimp only;omega)) ?_))<;>try (conv=>whnf)
  refine ⟨((((p, x), ray), K), M), ⟨⟨hx, hr⟩, And.intro (prg_fit p (Nat.le_refl K)) (And.intro (rl_fit x (Nat.le_refl K)) (And.intro (rl_fit ray (Nat.le_refl K)) (True.intro)))⟩, ?_⟩
  (repeat ((conv=>whnf);refine And.intro (by first|omega|exact True.intro|exact ⟨by omega,trivial⟩|exact ⟨by omega,by omega⟩|rfl|exact And.intro rfl (by omega)|(dsimp only;omega)) ?_))<;>try (conv=>whnf)
  refine And.intro (fun h2 => ?_) (fun h2 => ?_)
  · (repeat ((conv=>whnf);refine And.intro (by first|omega|exact True.intro|exact ⟨by omega,trivial⟩|exact ⟨by omega,by omega⟩|rfl|exact And.intro rfl (by omega)|(dsimp only;omega)) ?_))<;>try (conv=>whnf)
    all_goals (repeat' first|exact True.intro|exact rfl|apply And.intro|assumption|omega|(exact Or.inr (by assumption))|(refine congrArg (Value.int .i64) ?_;omega))
  have hu : Unb p x ray := pbnf h2
  have e1 := hu.f.n
  have e2 := hu.n
  (repeat ((conv=>whnf);refine And.intro (by first|omega|exact True.intro|exact ⟨by omega,trivial⟩|exact ⟨by omega,by omega⟩|rfl|exact And.intro rfl (by omega)|(dsimp only;omega)) ?_))<;>try (conv=>whnf)
  refine ⟨⟨Nat, fun j => j ≤ x.length, fun j => [.slot 13 (.val (.int .i64 (j : Int))), .own 12 36 3 j (madeC (fun j => rg x j + mkRat (IntKind.i64.wrap k) 1 * rg ray j) (2 * K + 6)), .slot 12 (.row 12)], fun j => x.length - j, 0⟩, 0, Nat.zero_le _, ?_⟩
  conv => whnf
  refine And.intro ?_ ?_
  · all_goals (repeat' first|exact True.intro|exact rfl|apply And.intro|assumption|omega|(exact Or.inr (by assumption))|(refine congrArg (Value.int .i64) ?_;omega))
  conv => whnf
  rintro j h3
  (repeat ((conv=>whnf);refine And.intro (by first|omega|exact True.intro|exact ⟨by omega,trivial⟩|exact ⟨by omega,by omega⟩|rfl|exact And.intro rfl (by omega)|(dsimp only;omega)) ?_))<;>try (conv=>whnf)
  refine And.intro (fun h5 => ?_) (fun h5 => ?_)
  · have h6 : (j : Int) < x.length := of_decide_eq_true h5
    have w1 : IntKind.i64.wrap ((j : Int) + 1) = (j : Int) + 1 := w64 (by omega) (by omega)
    (repeat ((conv=>whnf);refine And.intro (by first|omega|exact True.intro|exact ⟨by omega,trivial⟩|exact ⟨by omega,by omega⟩|rfl|exact And.intro rfl (by omega)|(dsimp only;omega)) ?_))<;>try (conv=>whnf)
    refine ⟨j + 1, (show j + 1 ≤ x.length by omega), (show x.length - (j + 1) < x.length - j by omega), ?_⟩
    conv => whnf
    all_goals (repeat' first|exact True.intro|exact rfl|apply And.intro|assumption|omega|(exact Or.inr (by assumption))|(refine congrArg (Value.int .i64) ?_;omega))
    exact made_app (f := fun j => rg x j + mkRat (IntKind.i64.wrap k) 1 * rg ray j) rfl (.inl (by omega))
  have h6 : ¬ (j : Int) < x.length := of_decide_eq_false h5
  obtain rfl : j = x.length := by omega
  have hfl := (farP_comb p.cols.length x ray (mkRat k 1)).1
  have hfc := (farP_comb p.cols.length x ray (mkRat k 1)).2
  have ht : (0 : Rat) ≤ mkRat k 1 := by rw [Rat.mkRat_one]; exact Rat.intCast_nonneg.2 hk.1
  have hfar : Feas p (farP p.cols.length x ray (mkRat k 1)) := hu.far ht hfl hfc
  have hobj := Unb.obj hfc
  have ho := hu.o
  have fitF : Go.Vx.fits [prgAv p (2 * K + 6), rlAv (farP p.cols.length x ray (mkRat k 1)) (2 * K + 6)] [prgAv p K, .list 3 x.length (madeC (fun j => rg x j + mkRat (IntKind.i64.wrap k) 1 * rg ray j) (2 * K + 6))] := by
    refine And.intro (prg_fit p (by omega)) (And.intro (And.intro rfl (And.intro (e1.trans hfl.symm) fun j hj => And.intro (And.intro ?_ (.inl (Nat.le_refl _))) True.intro)) True.intro)
    rw [hfl] at hj
    rw [rg_far, if_pos hj, w0]
  have hle : obj p (farP p.cols.length x ray (mkRat k 1)) ≤ obj p x := by
    have := Rat.mul_nonneg ht (show 0 ≤ -(obj p ray) by grind)
    rw [hobj]; grind
  have hlt : k ≠ 0 → obj p (farP p.cols.length x ray (mkRat k 1)) < obj p x := fun hk0 => by
    have h7 : (0 : Rat) < mkRat k 1 := by rw [Rat.mkRat_one]; exact Rat.intCast_pos.2 (by omega)
    have := Rat.mul_pos h7 (show 0 < -(obj p ray) by grind)
    rw [hobj]; grind
  have hnb := hu.none (y := y)
  (repeat ((conv=>whnf);refine And.intro (by first|omega|exact True.intro|exact ⟨by omega,trivial⟩|exact ⟨by omega,by omega⟩|rfl|exact And.intro rfl (by omega)|(dsimp only;omega)) ?_))<;>try (conv=>whnf)
  refine ⟨((((p, y), K), M), false), ⟨⟨hy, by simpa using hnb⟩, And.intro (prg_fit p (Nat.le_refl K)) (And.intro (rl_fit y (Nat.le_refl K)) (True.intro))⟩, ?_⟩
  (repeat ((conv=>whnf);refine And.intro (by first|omega|exact True.intro|exact ⟨by omega,trivial⟩|exact ⟨by omega,by omega⟩|rfl|exact And.intro rfl (by omega)|(dsimp only;omega)) ?_))<;>try (conv=>whnf)
  refine ⟨(((p, farP p.cols.length x ray (mkRat k 1)), 2 * K + 6), M), ⟨hf, fitF⟩, ?_⟩
  (repeat ((conv=>whnf);refine And.intro (by first|omega|exact True.intro|exact ⟨by omega,trivial⟩|exact ⟨by omega,by omega⟩|rfl|exact And.intro rfl (by omega)|(dsimp only;omega)) ?_))<;>try (conv=>whnf)
  refine And.intro (fun _ => ?_) (fun h => absurd hfar (pb_f.1 h))
  (repeat ((conv=>whnf);refine And.intro (by first|omega|exact True.intro|exact ⟨by omega,trivial⟩|exact ⟨by omega,by omega⟩|rfl|exact And.intro rfl (by omega)|(dsimp only;omega)) ?_))<;>try (conv=>whnf)
  refine ⟨(((p, farP p.cols.length x ray (mkRat k 1)), 2 * K + 6), M), ⟨⟨hf, hfl⟩, fitF⟩, ?_⟩
  (repeat ((conv=>whnf);refine And.intro (by first|omega|exact True.intro|exact ⟨by omega,trivial⟩|exact ⟨by omega,by omega⟩|rfl|exact And.intro rfl (by omega)|(dsimp only;omega)) ?_))<;>try (conv=>whnf)
  refine ⟨(((p, x), K), M), ⟨⟨hx, e1⟩, And.intro (prg_fit p (Nat.le_refl K)) (And.intro (rl_fit x (Nat.le_refl K)) (True.intro))⟩, ?_⟩
  (repeat ((conv=>whnf);refine And.intro (by first|omega|exact True.intro|exact ⟨by omega,trivial⟩|exact ⟨by omega,by omega⟩|rfl|exact And.intro rfl (by omega)|(dsimp only;omega)) ?_))<;>try (conv=>whnf)
  refine And.intro (fun _ => ?_) (fun h => absurd (decide_eq_true hle) (by rw [← cmp_le]; exact fun hh => absurd (hh.symm.trans h) (by decide)))
  (repeat ((conv=>whnf);refine And.intro (by first|omega|exact True.intro|exact ⟨by omega,trivial⟩|exact ⟨by omega,by omega⟩|rfl|exact And.intro rfl (by omega)|(dsimp only;omega)) ?_))<;>try (conv=>whnf)
  refine And.intro (fun h8 => ?_) (fun h8 => ?_)
  · (repeat ((conv=>whnf);refine And.intro (by first|omega|exact True.intro|exact ⟨by omega,trivial⟩|exact ⟨by omega,by omega⟩|rfl|exact And.intro rfl (by omega)|(dsimp only;omega)) ?_))<;>try (conv=>whnf)
    all_goals (repeat' first|exact True.intro|exact rfl|apply And.intro|assumption|omega|(exact Or.inr (by assumption))|(refine congrArg (Value.int .i64) ?_;omega))
  have hk0 : k ≠ 0 := by simpa using h8
  (repeat ((conv=>whnf);refine And.intro (by first|omega|exact True.intro|exact ⟨by omega,trivial⟩|exact ⟨by omega,by omega⟩|rfl|exact And.intro rfl (by omega)|(dsimp only;omega)) ?_))<;>try (conv=>whnf)
  refine ⟨(((p, farP p.cols.length x ray (mkRat k 1)), 2 * K + 6), M), ⟨⟨hf, hfl⟩, fitF⟩, ?_⟩
  (repeat ((conv=>whnf);refine And.intro (by first|omega|exact True.intro|exact ⟨by omega,trivial⟩|exact ⟨by omega,by omega⟩|rfl|exact And.intro rfl (by omega)|(dsimp only;omega)) ?_))<;>try (conv=>whnf)
  refine ⟨(((p, x), K), M), ⟨⟨hx, e1⟩, And.intro (prg_fit p (Nat.le_refl K)) (And.intro (rl_fit x (Nat.le_refl K)) (True.intro))⟩, ?_⟩
  (repeat ((conv=>whnf);refine And.intro (by first|omega|exact True.intro|exact ⟨by omega,trivial⟩|exact ⟨by omega,by omega⟩|rfl|exact And.intro rfl (by omega)|(dsimp only;omega)) ?_))<;>try (conv=>whnf)
  refine And.intro (fun _ => ?_) (fun h => absurd (cmpR_lt.2 (hlt hk0)) (of_decide_eq_false h))
  (repeat ((conv=>whnf);refine And.intro (by first|omega|exact True.intro|exact ⟨by omega,trivial⟩|exact ⟨by omega,by omega⟩|rfl|exact And.intro rfl (by omega)|(dsimp only;omega)) ?_))<;>try (conv=>whnf)
  all_goals (repeat' first|exact True.intro|exact rfl|apply And.intro|assumption|omega|(exact Or.inr (by assumption))|(refine congrArg (Value.int .i64) ?_;omega))

set_option maxRecDepth 100000 in
theorem unb12_walk {W : World} {v0 v1 v2 v3 v4 : Value} {p : Prg} {x : List Rat} {ray : List Rat} {y : List Rat} {k : Int} (h0 : Rob (fun _ => False) W (prgAv p 1048576) [v0]) (h1 : Rob (fun _ => False) W (rlAv x 1048576) [v1]) (h2 : Rob (fun _ => False) W (rlAv ray 1048576) [v2]) (h3 : Rob (fun _ => False) W (rlAv y 1048576) [v3]) (h4 : Rob (fun _ => False) W (.val (.int .u16 k)) [v4]) {n0 n1 n2 n3 : Nat} (hk : 0 ≤ k ∧ k ≤ 65535) (w0 : Wt (prgN p) n0) (w1 : Wt x n1) (w2 : Wt ray n2) (w3 : Wt y n3) (b0 : PB p 1048576) (hn : n0 + n1 + n2 + n3 ≤ 1048576) :
    Calls Tryz.prog 13 #[v0, v1, v2, v3, v4] W (RetB W true) :=
  call_b (fn_ok (own := fun _ => False) (ctx_ok TT_ok [sml_s, cunb_s, aw12_s, rRFromInt_s, rRMul_s, rRAdd_s, wbnd_s, wfea_s, wobj_s, rRCmp_s]) mixed_ok (fn := Tryz.f13) (by kernel_rfl) (unb12_x p x ray y k 1048576 (6 * 1048576 + 3) hk b0 (px_of b0 ((w0.app w1).mono (by omega)) (by decide)) (px_of b0 ((w0.app w2).mono (by omega)) (by decide)) (py_of b0 ((w0.app w3).mono (by omega)) (by decide)) (px_far (b0.up (by decide)) w0 w1 w2 (by omega) hk) (by decide)) (fun _ h => h.elim) (.cons h0 (.cons h1 (.cons h2 (.cons h3 (.cons h4 .nil))))))
end Go.Proofs.YtfgkecffpkdjcaaGreat
