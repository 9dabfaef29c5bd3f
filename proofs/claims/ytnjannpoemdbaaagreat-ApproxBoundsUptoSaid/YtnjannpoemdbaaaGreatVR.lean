/- References 02, 03 and package rational by the executor. -/
import Derived.Test.YtnjannpoemdbaaaGreatVS
namespace Go.Proofs.YtnjannpoemdbaaaGreat
open Go.RowKit Gm Go.Vx

theorem mk_neg (q : Rat) : mkRat (-q.num) (q.den : Int).toNat = -q := by
  rw [Int.toNat_natCast]; exact (Rat.neg_mkRat _ _).symm.trans (by rw [Rat.mkRat_self])
theorem mk_add (q r : Rat) : mkRat (q.num * r.den + r.num * q.den) ((q.den : Int) * (r.den : Int)).toNat = q + r := by
  rw [Rat.add_def']; rfl
theorem mk_mul (q r : Rat) : mkRat (q.num * r.num) ((q.den : Int) * (r.den : Int)).toNat = q * r := by
  rw [Rat.mul_def']; rfl
theorem abs_eq {m n : Int} (h : (decide (m < 0) == decide (n < 0)) = true) : m.natAbs = n.natAbs ↔ m = n := by
  simp at h
  omega
theorem abs_ne {m n : Int} (h : (decide (m < 0) == decide (n < 0)) = false) : m ≠ n := by
  rintro rfl; simp at h
theorem sgn_sub (r s : Rat) : sgn (r + -s).num = cmpR r s := by
  have h0 : ∀ x : Rat, 0 < x ↔ 0 < x.num := fun x => by rw [Rat.lt_iff]; simp
  have e : r + -s = r - s := (Rat.sub_eq_add_neg r s).symm
  rw [e]
  have a1 : r < s ↔ (r - s).num < 0 := by
    rw [Rat.lt_iff_sub_pos, h0, show s - r = -(r - s) by rw [Rat.neg_sub], Rat.neg_num]; omega
  have a2 : s < r ↔ 0 < (r - s).num := by rw [Rat.lt_iff_sub_pos, h0]
  unfold sgn cmpR
  simp only [a1, a2]
theorem cmp_le (r s : Rat) : decide (cmpR r s ≤ 0) = decide (r ≤ s) := by
  rw [decide_eq_decide]
  unfold cmpR
  by_cases h1 : r < s
  · rw [if_pos h1]; exact ⟨fun _ => Rat.le_of_lt h1, fun _ => by omega⟩
  · rw [if_neg h1]
    by_cases h2 : s < r
    · rw [if_pos h2]; exact ⟨fun h => by omega, fun h => absurd h (Rat.not_le.2 h2)⟩
    · rw [if_neg h2]; exact ⟨fun _ => Rat.not_lt.1 h2, fun _ => by omega⟩
theorem cmp_ge (r s : Rat) : decide (0 ≤ cmpR r s) = decide (s ≤ r) := by
  rw [decide_eq_decide]
  unfold cmpR
  by_cases h1 : r < s
  · rw [if_pos h1]; exact ⟨fun h => by omega, fun h => absurd h (Rat.not_le.2 h1)⟩
  · rw [if_neg h1]
    exact ⟨fun _ => Rat.not_lt.1 h1, fun _ => by split <;> omega⟩
def minQ (r s : Rat) : Rat := if cmpR r s ≤ 0 then r else s
def maxQ (r s : Rat) : Rat := if 0 ≤ cmpR r s then r else s
theorem mk_flip (s : Bool) (m d : Nat) : mkRat (sg (!s) m) d = -mkRat (sg s m) d := by
  rw [Rat.neg_mkRat]
  cases s <;> simp [sg]
set_option smartUnfolding false in
set_option maxRecDepth 100000 in
theorem rden_x (q : Rat) (K : Nat) (_hz : Sz q K) (hK : K ≤ 1073741824) : fnOk ⟨TT, specsOf [rRNorm_s]⟩ Tryz.f37 [rAv q K] (zAv q.den K) := by
  (repeat ((conv => whnf); refine And.intro (by first | omega | exact ⟨by omega, trivial⟩ | exact ⟨by omega, by omega⟩ | rfl | exact And.intro rfl (by omega)) ?_)) <;> try (conv => whnf)
  all_goals first | done | exact True.intro | rfl

set_option maxRecDepth 100000 in
def rden_s : PSpec Tryz.prog := ⟨37, spQ (fun _ K => K ≤ 1073741824) (fun q K => zAv q.den K), spQ_fn (fn := Tryz.f37) (ctx_ok TT_ok [rRNorm_s]) mixed_ok (by kernel_rfl) (fun q K hz _ hK => rden_x q K hz hK), by kernel_rfl⟩

set_option smartUnfolding false in
set_option maxRecDepth 100000 in
theorem rRSign_x (q : Rat) (K : Nat) (_hz : Sz q K) (hK : K ≤ 1073741824) : fnOk ⟨TT, specsOf [rRNorm_s, rISign_s]⟩ Tryz.f68 [rAv q K] (.val (.int .i64 (sgn q.num))) := by
  (repeat ((conv => whnf); refine And.intro (by first | omega | exact ⟨by omega, trivial⟩ | exact ⟨by omega, by omega⟩ | rfl | exact And.intro rfl (by omega)) ?_)) <;> try (conv => whnf)
  all_goals first | done | exact True.intro | rfl

set_option maxRecDepth 100000 in
def rRSign_s : PSpec Tryz.prog := ⟨68, spQ (fun _ K => K ≤ 1073741824) (fun q K => .val (.int .i64 (sgn q.num))), spQ_fn (fn := Tryz.f68) (ctx_ok TT_ok [rRNorm_s, rISign_s]) mixed_ok (by kernel_rfl) (fun q K hz _ hK => rRSign_x q K hz hK), by kernel_rfl⟩

set_option smartUnfolding false in
set_option maxRecDepth 100000 in
theorem rRNeg_x (q : Rat) (K : Nat) (_hz : Sz q K) (hK : K ≤ 1073741824) : fnOk ⟨TT, specsOf [rRNorm_s, rINeg_s, rden_s, rMake_s]⟩ Tryz.f20 [rAv q K] (qAv (-q) K) := by
  (repeat ((conv => whnf); refine And.intro (by first | omega | exact ⟨by omega, trivial⟩ | exact ⟨by omega, by omega⟩ | rfl | exact And.intro rfl (by omega)) ?_)) <;> try (conv => whnf)
  refine ⟨(-q, K), ⟨by omega, by omega, mk_neg q, sz_neg1 _hz⟩, ?_⟩
  (repeat ((conv => whnf); refine And.intro (by first | omega | exact ⟨by omega, trivial⟩ | exact ⟨by omega, by omega⟩ | rfl | exact And.intro rfl (by omega)) ?_)) <;> try (conv => whnf)
  all_goals first | done | exact True.intro | rfl

set_option maxRecDepth 100000 in
def rRNeg_s : PSpec Tryz.prog := ⟨20, spQ (fun _ K => K ≤ 1073741824) (fun q K => qAv (-q) K), spQ_fn (fn := Tryz.f20) (ctx_ok TT_ok [rRNorm_s, rINeg_s, rden_s, rMake_s]) mixed_ok (by kernel_rfl) (fun q K hz _ hK => rRNeg_x q K hz hK), by kernel_rfl⟩

set_option smartUnfolding false in
set_option maxRecDepth 100000 in
theorem rRAdd_x (q : Rat) (K : Nat) (r : Rat) (L : Nat) (_hz : Sz q K) (_hy : Sz r L) (hK : K + L ≤ 268435456) : fnOk ⟨TT, specsOf [rRNorm_s, rIAdd_s, rIMul_s, rden_s, rMake_s]⟩ Tryz.f93 [rAv q K, rAv r L] (qAv (q + r) (K + L + 1)) := by
  (repeat ((conv => whnf); refine And.intro (by first | omega | exact ⟨by omega, trivial⟩ | exact ⟨by omega, by omega⟩ | rfl | exact And.intro rfl (by omega)) ?_)) <;> try (conv => whnf)
  refine ⟨(q + r, K + L + 1), ⟨by omega, Int.mul_nonneg (by omega) (by omega), mk_add q r, sz_add2 _hz _hy⟩, ?_⟩
  (repeat ((conv => whnf); refine And.intro (by first | omega | exact ⟨by omega, trivial⟩ | exact ⟨by omega, by omega⟩ | rfl | exact And.intro rfl (by omega)) ?_)) <;> try (conv => whnf)
  all_goals first | done | exact True.intro | rfl

set_option maxRecDepth 100000 in
def rRAdd_s : PSpec Tryz.prog := ⟨93, spQQ (fun _ K _ L => K + L ≤ 268435456) (fun q K r L => qAv (q + r) (K + L + 1)), spQQ_fn (fn := Tryz.f93) (ctx_ok TT_ok [rRNorm_s, rIAdd_s, rIMul_s, rden_s, rMake_s]) mixed_ok (by kernel_rfl) (fun q K r L hz hy _ hK => rRAdd_x q K r L hz hy hK), by kernel_rfl⟩

set_option smartUnfolding false in
set_option maxRecDepth 100000 in
theorem rRMul_x (q : Rat) (K : Nat) (r : Rat) (L : Nat) (_hz : Sz q K) (_hy : Sz r L) (hK : K + L ≤ 268435456) : fnOk ⟨TT, specsOf [rRNorm_s, rIMul_s, rden_s, rMake_s]⟩ Tryz.f18 [rAv q K, rAv r L] (qAv (q * r) (K + L)) := by
  (repeat ((conv => whnf); refine And.intro (by first | omega | exact ⟨by omega, trivial⟩ | exact ⟨by omega, by omega⟩ | rfl | exact And.intro rfl (by omega)) ?_)) <;> try (conv => whnf)
  refine ⟨(q * r, K + L), ⟨by omega, Int.mul_nonneg (by omega) (by omega), mk_mul q r, sz_mul2 _hz _hy⟩, ?_⟩
  (repeat ((conv => whnf); refine And.intro (by first | omega | exact ⟨by omega, trivial⟩ | exact ⟨by omega, by omega⟩ | rfl | exact And.intro rfl (by omega)) ?_)) <;> try (conv => whnf)
  all_goals first | done | exact True.intro | rfl

set_option maxRecDepth 100000 in
def rRMul_s : PSpec Tryz.prog := ⟨18, spQQ (fun _ K _ L => K + L ≤ 268435456) (fun q K r L => qAv (q * r) (K + L)), spQQ_fn (fn := Tryz.f18) (ctx_ok TT_ok [rRNorm_s, rIMul_s, rden_s, rMake_s]) mixed_ok (by kernel_rfl) (fun q K r L hz hy _ hK => rRMul_x q K r L hz hy hK), by kernel_rfl⟩

set_option smartUnfolding false in
set_option maxRecDepth 100000 in
theorem rRSub_x (q : Rat) (K : Nat) (r : Rat) (L : Nat) (_hz : Sz q K) (_hy : Sz r L) (hK : K + L ≤ 268435456) : fnOk ⟨TT, specsOf [rRAdd_s, rRNeg_s]⟩ Tryz.f69 [rAv q K, rAv r L] (qAv (q + -r) (K + L + 1)) := by
  (repeat ((conv => whnf); refine And.intro (by first | omega | exact ⟨by omega, trivial⟩ | exact ⟨by omega, by omega⟩ | rfl | exact And.intro rfl (by omega)) ?_)) <;> try (conv => whnf)
  all_goals first | done | exact True.intro | rfl

set_option maxRecDepth 100000 in
def rRSub_s : PSpec Tryz.prog := ⟨69, spQQ (fun _ K _ L => K + L ≤ 268435456) (fun q K r L => qAv (q + -r) (K + L + 1)), spQQ_fn (fn := Tryz.f69) (ctx_ok TT_ok [rRAdd_s, rRNeg_s]) mixed_ok (by kernel_rfl) (fun q K r L hz hy _ hK => rRSub_x q K r L hz hy hK), by kernel_rfl⟩

set_option smartUnfolding false in
set_option maxRecDepth 100000 in
theorem rIEqz_x  : fnOk ⟨TT, specsOf [rNEq_s]⟩ Tryz.f25 [ziAv, ziAv] (.kb true) := by
  (repeat ((conv => whnf); refine And.intro (by first | omega | exact ⟨by omega, trivial⟩ | exact ⟨by omega, by omega⟩ | rfl | exact And.intro rfl (by omega)) ?_)) <;> try (conv => whnf)
  refine ⟨fun _ => ?_, fun h => absurd h (by decide)⟩
  (repeat ((conv => whnf); refine And.intro (by first | omega | exact ⟨by omega, trivial⟩ | exact ⟨by omega, by omega⟩ | rfl | exact And.intro rfl (by omega) | (simp only [canK]; omega)) ?_)) <;> try (conv => whnf)
  all_goals first | done | exact True.intro | rfl

set_option smartUnfolding false in
set_option maxRecDepth 100000 in
theorem rIEq_x (m : Int) (K : Nat) (n : Int) (L : Nat) (hK : K + L ≤ 268435456) : fnOk ⟨TT, specsOf [rNEq_s]⟩ Tryz.f25 [zAv m K, zAv n L] (.val (.bool (decide (m = n)))) := by
  (repeat ((conv => whnf); refine And.intro (by first | omega | exact ⟨by omega, trivial⟩ | exact ⟨by omega, by omega⟩ | rfl | exact And.intro rfl (by omega)) ?_)) <;> try (conv => whnf)
  refine ⟨fun h1 => ?_, fun h1 => ?_⟩
  · (repeat ((conv => whnf); refine And.intro (by first | omega | exact ⟨by omega, trivial⟩ | exact ⟨by omega, by omega⟩ | rfl | exact And.intro rfl (by omega) | (simp only [canK]; omega)) ?_)) <;> try (conv => whnf)
    exact congrArg Value.bool (decide_eq_decide.2 (abs_eq h1))
  · (repeat ((conv => whnf); refine And.intro (by first | omega | exact ⟨by omega, trivial⟩ | exact ⟨by omega, by omega⟩ | rfl | exact And.intro rfl (by omega)) ?_)) <;> try (conv => whnf)
    exact congrArg Value.bool (decide_eq_false (abs_ne h1)).symm

set_option maxRecDepth 100000 in
def rIEq_s : PSpec Tryz.prog := ⟨25, spEqZ, spEqZ_ok (fn := Tryz.f25) (ctx_ok TT_ok [rNEq_s]) mixed_ok (by kernel_rfl) (rIEq_x) (rIEqz_x), by kernel_rfl⟩

set_option smartUnfolding false in
set_option maxRecDepth 100000 in
theorem rREqz_x  : fnOk ⟨TT, specsOf [rNEq_s, rIEq_s]⟩ Tryz.f10 [zrAv, zrAv] (.kb true) := by
  (repeat ((conv => whnf); refine And.intro (by first | omega | exact ⟨by omega, trivial⟩ | exact ⟨by omega, by omega⟩ | rfl | exact And.intro rfl (by omega) | (simp only [canK]; omega)) ?_)) <;> try (conv => whnf)
  all_goals first | done | exact True.intro | rfl

set_option smartUnfolding false in
set_option maxRecDepth 100000 in
theorem rREq_x (m : Rat) (K : Nat) (n : Rat) (L : Nat) (hK : K + L ≤ 268435456) : fnOk ⟨TT, specsOf [rNEq_s, rIEq_s]⟩ Tryz.f10 [qAv m K, qAv n L] (.val (.bool (decide (m = n)))) := by
  (repeat ((conv => whnf); refine And.intro (by first | omega | exact ⟨by omega, trivial⟩ | exact ⟨by omega, by omega⟩ | rfl | exact And.intro rfl (by omega)) ?_)) <;> try (conv => whnf)
  refine ⟨fun h1 => ?_, fun h1 => ?_⟩
  · (repeat ((conv => whnf); refine And.intro (by first | omega | exact ⟨by omega, trivial⟩ | exact ⟨by omega, by omega⟩ | rfl | exact And.intro rfl (by omega) | (simp only [canK]; omega)) ?_)) <;> try (conv => whnf)
    exact congrArg Value.bool (decide_eq_decide.2 ⟨fun h => Rat.ext (of_decide_eq_true h1) h, fun h => by rw [h]⟩)
  · (repeat ((conv => whnf); refine And.intro (by first | omega | exact ⟨by omega, trivial⟩ | exact ⟨by omega, by omega⟩ | rfl | exact And.intro rfl (by omega)) ?_)) <;> try (conv => whnf)
    exact congrArg Value.bool (decide_eq_false fun h => of_decide_eq_false h1 (by rw [h])).symm

set_option maxRecDepth 100000 in
def rREq_s : PSpec Tryz.prog := ⟨10, spEqR, spEqR_ok (fn := Tryz.f10) (ctx_ok TT_ok [rNEq_s, rIEq_s]) mixed_ok (by kernel_rfl) (rREq_x) (rREqz_x), by kernel_rfl⟩

set_option smartUnfolding false in
set_option maxRecDepth 100000 in
theorem rRCmp_x (q : Rat) (K : Nat) (r : Rat) (L : Nat) (_hz : Sz q K) (_hy : Sz r L) (hK : K + L ≤ 268435456) : fnOk ⟨TT, specsOf [rRSub_s, rRSign_s]⟩ Tryz.f38 [rAv q K, rAv r L] (.val (.int .i64 (cmpR q r))) := by
  (repeat ((conv => whnf); refine And.intro (by first | omega | exact ⟨by omega, trivial⟩ | exact ⟨by omega, by omega⟩ | rfl | exact And.intro rfl (by omega)) ?_)) <;> try (conv => whnf)
  exact congrArg (Value.int .i64) (sgn_sub q r)

set_option maxRecDepth 100000 in
def rRCmp_s : PSpec Tryz.prog := ⟨38, spQQ (fun _ K _ L => K + L ≤ 268435456) (fun q K r L => .val (.int .i64 (cmpR q r))), spQQ_fn (fn := Tryz.f38) (ctx_ok TT_ok [rRSub_s, rRSign_s]) mixed_ok (by kernel_rfl) (fun q K r L hz hy _ hK => rRCmp_x q K r L hz hy hK), by kernel_rfl⟩

set_option smartUnfolding false in
set_option maxRecDepth 100000 in
theorem rRMax_x (q : Rat) (K : Nat) (r : Rat) (L : Nat) (_hz : Sz q K) (_hy : Sz r L) (hK : K + L ≤ 268435456) : fnOk ⟨TT, specsOf [rRCmp_s, rRNorm_s]⟩ Tryz.f16 [rAv q K, rAv r L] (qAv (maxQ q r) (K + L)) := by
  (repeat ((conv => whnf); refine And.intro (by first | omega | exact ⟨by omega, trivial⟩ | exact ⟨by omega, by omega⟩ | rfl | exact And.intro rfl (by omega)) ?_)) <;> try (conv => whnf)
  refine ⟨fun h1 => ?_, fun h1 => ?_⟩
  · (repeat ((conv => whnf); refine And.intro (by first | omega | exact ⟨by omega, trivial⟩ | exact ⟨by omega, by omega⟩ | rfl | exact And.intro rfl (by omega)) ?_)) <;> try (conv => whnf)
    exact And.intro (And.intro (if_pos (of_decide_eq_true h1)).symm (by omega)) True.intro
  · (repeat ((conv => whnf); refine And.intro (by first | omega | exact ⟨by omega, trivial⟩ | exact ⟨by omega, by omega⟩ | rfl | exact And.intro rfl (by omega)) ?_)) <;> try (conv => whnf)
    exact And.intro (And.intro (if_neg (of_decide_eq_false h1)).symm (by omega)) True.intro

set_option maxRecDepth 100000 in
def rRMax_s : PSpec Tryz.prog := ⟨16, spQQ (fun _ K _ L => K + L ≤ 268435456) (fun q K r L => qAv (maxQ q r) (K + L)), spQQ_fn (fn := Tryz.f16) (ctx_ok TT_ok [rRCmp_s, rRNorm_s]) mixed_ok (by kernel_rfl) (fun q K r L hz hy _ hK => rRMax_x q K r L hz hy hK), by kernel_rfl⟩

set_option smartUnfolding false in
set_option maxRecDepth 100000 in
theorem rRFloor_x (q : Rat) (K : Nat) (_hz : Sz q K) (hK : K ≤ 1073741824) : fnOk ⟨TT, specsOf [rRNorm_s, rden_s, rIDivMod_s]⟩ Tryz.f15 [rAv q K] (zAv q.floor K) := by
  have hd := q.den_pos
  (repeat ((conv => whnf); refine And.intro (by first | omega | exact ⟨by omega, trivial⟩ | exact ⟨by omega, by omega⟩ | rfl | exact And.intro rfl (by omega)) ?_)) <;> try (conv => whnf)
  exact And.intro (And.intro (Rat.floor_def q).symm (.inl (Nat.le_refl _))) True.intro

set_option maxRecDepth 100000 in
def rRFloor_s : PSpec Tryz.prog := ⟨15, spQ (fun _ K => K ≤ 1073741824) (fun q K => zAv q.floor K), spQ_fn (fn := Tryz.f15) (ctx_ok TT_ok [rRNorm_s, rden_s, rIDivMod_s]) mixed_ok (by kernel_rfl) (fun q K hz _ hK => rRFloor_x q K hz hK), by kernel_rfl⟩

set_option smartUnfolding false in
set_option maxRecDepth 100000 in
theorem RSub_x (q : Rat) (K : Nat) (s : Bool) (m d L : Nat) (hL : 1 ≤ L) (hK : K + L ≤ 268435456) : fnOk ⟨TT, specsOf [RAdd_s]⟩ Tryz.f75 [rAv q K, rwAv s m d L] (qAv (q + -mkRat (sg s m) d) (K + L + 1)) := by
  (repeat ((conv => whnf); refine And.intro (by first | omega | exact ⟨by omega, trivial⟩ | exact ⟨by omega, by omega⟩ | rfl | exact And.intro rfl (by omega)) ?_)) <;> try (conv => whnf)
  exact And.intro (And.intro (congrArg (q + ·) (mk_flip s m d)) (by omega)) True.intro

set_option maxRecDepth 100000 in
def RSub_s : PSpec Tryz.prog := ⟨75, spQQ (fun _ K _ L => K + L ≤ 268435456) (fun q K r L => qAv (q + -r) (K + L + 1)), spQQ_of fun own w x y m K n L hown hx hy _ _ _ hp => by
    obtain ⟨s, a, d, rfl, h1, hy⟩ := rob_rw hy
    exact fn_ok (ctx_ok TT_ok [RAdd_s]) mixed_ok (fn := Tryz.f75) (by kernel_rfl) (RSub_x m K s a d L h1 hp) hown (.cons hx (.cons hy .nil)), by kernel_rfl⟩
end Go.Proofs.YtnjannpoemdbaaaGreat
