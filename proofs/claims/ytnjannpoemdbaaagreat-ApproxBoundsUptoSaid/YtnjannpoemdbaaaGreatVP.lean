/- Package approx by the executor. -/
import Derived.Test.YtnjannpoemdbaaaGreatVQ
import Derived.Test.YtnjannpoemdbaaaGreatMA
namespace Go.Proofs.YtnjannpoemdbaaaGreat
open Go.RowKit Gm Go.Vx

theorem spZZg_of {P : Program} {f : FuncId} {G : Type} {p : Int → Nat → Int → Nat → G → Prop} {r : Int → Nat → Int → Nat → G → Av} (h : ∀ own w x y m K n L g, (∀ b, own b → b < w.heap.size) → Rob own w (nAv m K) [x] → Rob own w (nAv n L) [y] → p m K n L g → CallOk own P f [x, y] w (r m K n L g)) : SpecOk P f (spZZg p r) := by
  intro own w vs xs hown ha
  cases ha with
  | nil => trivial
  | @cons v x _ _ hx ht =>
    cases ht with
    | nil => cases v <;> trivial
    | @cons v' y _ _ hy ht =>
      cases ht with
      | cons _ _ => cases v <;> cases v' <;> trivial
      | nil =>
        cases v with
        | agg a =>
          cases v' with
          | agg a' =>
            cases hr : Go.Vx.asInt a with
            | none => simp only [spZZg, hr]
            | some q =>
              obtain ⟨m, K⟩ := q
              cases hs : Go.Vx.asInt a' with
              | none => simp only [spZZg, hr, hs]
              | some q' =>
                obtain ⟨n, L⟩ := q'
                simp only [spZZg, hr, hs]
                intro g hp
                exact h own w x y m K n L g hown (rob_z hx hr) (rob_z hy hs) hp.2
          | _ => trivial
        | _ => trivial
/-- a rational number and an integer, and a choice -/
def spQZg {G : Type} (p : Rat → Nat → Int → Nat → G → Prop) (r : Rat → Nat → Int → Nat → G → Av) : Go.Vx.Spec
  | [.agg a, .agg b] => match asRat a with
    | some (m, K) => match Go.Vx.asInt b with
      | some (n, L) => .gh G (fun g => K + L ≤ 4294967296 ∧ p m K n L g) (r m K n L)
      | none => .no
    | none => .no
  | _ => .no
theorem spQZg_fn {P : Program} {C : Ctx} {f : FuncId} {fn : Func} (hC : CtxOk P C) (hm : P.follows .mixedOrders = true) (hf : P.funcs[f]? = some fn) {G : Type} {p : Rat → Nat → Int → Nat → G → Prop} {r : Rat → Nat → Int → Nat → G → Av} (h : ∀ m K n L g, Sz m K → SzI n L → p m K n L g → fnOk C fn [rAv m K, nAv n L] (r m K n L g)) : SpecOk P f (spQZg p r) := by
  intro own w vs xs hown ha
  cases ha with
  | nil => trivial
  | @cons v x _ _ hx ht =>
    cases ht with
    | nil => cases v <;> trivial
    | @cons v' y _ _ hy ht =>
      cases ht with
      | cons _ _ => cases v <;> cases v' <;> trivial
      | nil =>
        cases v with
        | agg a =>
          cases v' with
          | agg a' =>
            cases hr : asRat a with
            | none => simp only [spQZg, hr]
            | some q =>
              obtain ⟨m, K⟩ := q
              cases hs : Go.Vx.asInt a' with
              | none => simp only [spQZg, hr, hs]
              | some q' =>
                obtain ⟨n, L⟩ := q'
                simp only [spQZg, hr, hs]
                intro g hp
                exact fn_ok hC hm hf (h m K n L g (by obtain ⟨_, _, _, _, hi⟩ := arg_q hx hr; exact hi.sz) (by obtain ⟨_, _, _, hi⟩ := arg_z hy hs; exact hi.sz) hp.2) hown (.cons (rob_q hx hr) (.cons (rob_z hy hs) .nil))
          | _ => trivial
        | _ => trivial
/-- a list of integers -/
def zl (l : List Int) (K i : Nat) : Av := .cons (.intC (l.getD i 0) K) .nil
def zlAv (l : List Int) (K : Nat) : Av := .list 2 l.length (zl l K)
theorem zl_app {l : List Int} {x : Int} {K K' : Nat} (h : K' ≤ K ∨ SzI x K) : ∀ i, i < (l ++ [x]).length → fitC (zl (l ++ [x]) K i) (if i < l.length then zl l K i else nthp .nil [.cons (.intC x K') .nil] (i - l.length)) := by
  intro i hi
  rw [List.length_append, List.length_singleton] at hi
  by_cases h1 : i < l.length
  · rw [if_pos h1]
    have e : (l ++ [x]).getD i 0 = l.getD i 0 := by
      rw [List.getD_eq_getElem?_getD, List.getD_eq_getElem?_getD, List.getElem?_append_left h1]
    exact And.intro (And.intro e.symm (.inl (Nat.le_refl K))) True.intro
  · have h2 : i - l.length = 0 := by omega
    have h3 : i = l.length := by omega
    rw [if_neg h1, h2]
    have e : (l ++ [x]).getD i 0 = x := by
      rw [List.getD_eq_getElem?_getD, h3, List.getElem?_concat_length]; rfl
    exact And.intro (And.intro e.symm h) True.intro
theorem zl_refl (l : List Int) {K L : Nat} (h : K ≤ L) : ∀ i, i < l.length → fitC (zl l L i) (zl l K i) := fun _ _ => And.intro (And.intro rfl (.inl h)) True.intro
theorem cfq_len {q : Rat} {K : Nat} (h : Sz q K) : (cfq q).length ≤ 64 * K + 1 := by
  have h1 : q.den < 2 ^ (32 * K) := by
    have h2 := val_lt (Lb_limbs q.den)
    rw [val_limbs] at h2
    have h3 : Ba ^ (limbs q.den).length ≤ Ba ^ K := Nat.pow_le_pow_right Ba_pos h.2
    have e : Ba ^ K = 2 ^ (32 * K) := by rw [show Ba = 2 ^ 32 by decide, ← Nat.pow_mul]
    omega
  have := cf_len (32 * K) q.den q.num h1
  unfold cfq
  omega
theorem sgn_nz (n : Int) : (sgn n != 0) = true ↔ n ≠ 0 := by
  rw [bne_iff_ne]; exact not_congr (sgz' n)
theorem new_eq (s s' : Bool) (a b : Nat) : mkRat (sg (s != s') a) b = Rat.divInt (sg s a) (sg s' b) := by
  cases s <;> cases s' <;> simp only [sg, bne_self_eq_false, Bool.false_eq_true, if_false, if_true]
  · rw [Rat.divInt_ofNat]
  · show mkRat (-(a : Int)) b = _; rw [Rat.divInt_neg', Rat.divInt_ofNat]
  · show mkRat (-(a : Int)) b = _; rw [Rat.divInt_ofNat]
  · rw [Rat.neg_divInt_neg, Rat.divInt_ofNat]
theorem cv_last {l : List Int} (h : 0 < l.length) : cv (l.drop (l.length - 1)) = (l.getD (l.length - 1) 0, 1) := by
  have e : l.drop (l.length - 1) = [l.getD (l.length - 1) 0] := by
    rw [List.drop_eq_getElem_cons (by omega), List.drop_of_length_le (by omega), List.getD_eq_getElem?_getD, List.getElem?_eq_getElem (by omega)]; rfl
  rw [e]; simp [cv]
theorem cv_step {l : List Int} {j : Nat} (h : j < l.length) : cv (l.drop j) = (l.getD j 0 * (cv (l.drop (j + 1))).1 + (cv (l.drop (j + 1))).2, (cv (l.drop (j + 1))).1) := by
  rw [List.drop_eq_getElem_cons h, List.getD_eq_getElem?_getD, List.getElem?_eq_getElem h]; rfl
structure FcOk (l : List Int) (K M : Nat) : Prop where
  ok : fok l
  len : l.length ≤ 1073741824
  K : K + M ≤ 268435456
  one : 1 ≤ M
  sz : ∀ j, SzI (cv (l.drop j)).1 M
theorem FcOk.den {l : List Int} {K M : Nat} (h : FcOk l K M) (j : Nat) (hj : j < l.length) : SzI (cv (l.drop j)).2 M := by
  rw [cv_step hj]; exact h.sz (j + 1)
theorem szi_one {M : Nat} (h : 1 ≤ M) : SzI 1 M := by
  have h1 : (limbs 1).length = 1 := limbs1_len
  show (limbs 1).length ≤ M
  omega
/-- a numerator and a denominator -/
def frAv (p s : Int) (K : Nat) : Av := .agg (.cons (.intC p K) (.cons (.intC s K) .nil))
def spPlus : Go.Vx.Spec
  | [.agg (.cons (.intC p K) (.cons (.intC s K') .nil)), .agg b, .agg (.cons (.intC p' L) (.cons (.intC s' L') .nil))] => match Go.Vx.asInt b with
    | some (t, J) => .gh Nat (fun g => K + K' + L + L' + J ≤ 268435456 ∧ SzI (p + t * p') g ∧ SzI (s + t * s') g) (fun g => frAv (p + t * p') (s + t * s') g)
    | none => .no
  | _ => .no
def spValue : Go.Vx.Spec
  | [.agg (.cons (.intC p K) (.cons (.intC s L) .nil))] => .res (some (K + L ≤ 1073741824 ∧ s ≠ 0)) (qAv (Rat.divInt p s) (max (max K L) 1))
  | _ => .no
theorem cmpZ_lt {m n : Int} : cmpI m n < 0 ↔ m < n := by unfold cmpI; split <;> (try split) <;> omega
theorem cmpZ_le {m n : Int} : cmpI m n ≤ 0 ↔ m ≤ n := by unfold cmpI; split <;> (try split) <;> omega
theorem szi_le {n : Int} {m K : Nat} (h : n.natAbs ≤ m) (hm : (limbs m).length ≤ K) : SzI n K := Nat.le_trans (limbs_mono h) hm
theorem take_snoc {l : List Int} {i : Nat} (h : i < l.length) : l.take (i + 1) = l.take i ++ [l[i]] := List.take_succ_eq_append_getElem h
theorem cw_take {l : List Int} {i : Nat} (h : i < l.length) : cw (l.take (i + 1)) = cv (l.take i) := by rw [take_snoc h, cw_snoc]
theorem cv_take {l : List Int} {i : Nat} (h : i < l.length) : cv (l.take (i + 1)) = ((cw (l.take i)).1 + l[i] * (cv (l.take i)).1, (cw (l.take i)).2 + l[i] * (cv (l.take i)).2) := by rw [take_snoc h, cv_snoc]
theorem fr_sz {q : Rat} {K : Nat} (hz : Sz q K) {i : Nat} (hi : i ≤ (cfq q).length) : SzI (cv ((cfq q).take i)).1 (K + 1) ∧ SzI (cv ((cfq q).take i)).2 (K + 1) := by
  have h1 := hz.one
  have l1 : (limbs 1).length = 1 := limbs1_len
  rcases Nat.eq_zero_or_pos i with rfl | hp
  · rw [List.take_zero]
    exact ⟨szi_one (by omega), by show (limbs 0).length ≤ _; rw [limbs_zero]; simp⟩
  · have h := Gm.part q hp hi
    have hs := h.s_le
    have hs1 := h.s1
    refine ⟨szi_le h.p_le (limbs_add_le hz.1 (by omega)), szi_le (m := q.den) (by omega) (Nat.le_trans hz.2 (Nat.le_succ K))⟩
noncomputable def nbAv (q : Rat) (M : Int) (K : Nat) : Bool → Av
  | true => .tup (.cons (qAv (bel q M) (K + 1)) (.cons (qAv (abv q M) (K + 1)) (.cons (.kb true) .nil)))
  | false => .tup (.cons (.agg (.cons (.kb false) (.cons (.val (.slice none 0 0)) (.cons (.val (.slice none 0 0)) .nil)))) (.cons (.agg (.cons (.kb false) (.cons (.val (.slice none 0 0)) (.cons (.val (.slice none 0 0)) .nil)))) (.cons (.kb false) .nil)))
theorem dI_sz {p s : Int} {K : Nat} (h1 : SzI p K) (h2 : SzI s K) (hs : 0 < s) (_hK : 1 ≤ K) : Sz (Rat.divInt p s) K := by
  obtain ⟨k, rfl⟩ : ∃ k : Nat, s = k := ⟨s.toNat, by omega⟩
  rw [Rat.divInt_ofNat]
  unfold SzI at h2
  rw [Int.natAbs_natCast] at h2
  exact ⟨Nat.le_trans (limbs_mono (mkRat_num_le _ _)) h1, Nat.le_trans (limbs_mono (mkRat_den_le _ (by omega))) h2⟩
theorem floor_same {lo hi : Rat} (hle : lo ≤ hi) (h1 : hi + -(lo.floor : Rat) < 1) : hi.floor = lo.floor := by
  have hf := floor_bd lo
  apply Int.le_antisymm
  · have : hi < ((lo.floor + 1 : Int) : Rat) := by rw [Rat.intCast_add]; show hi < (lo.floor : Rat) + 1; grind
    have := Rat.floor_lt_iff.2 this
    omega
  · exact Rat.le_floor_iff.2 (by grind)
theorem smp_next {lo hi : Rat} (_h0 : 0 < lo) (hle : lo ≤ hi) (h1 : lo + -(lo.floor : Rat) ≠ 0) (h2 : hi + -(lo.floor : Rat) < 1) : 0 < (hi + -(lo.floor : Rat))⁻¹ ∧ (hi + -(lo.floor : Rat))⁻¹ ≤ (lo + -(lo.floor : Rat))⁻¹ ∧ (cfq hi).length = (cfq (hi + -(lo.floor : Rat))⁻¹).length + 1 ∧ (cfq lo).length = (cfq (lo + -(lo.floor : Rat))⁻¹).length + 1 := by
  have hf := floor_bd lo
  have hs := floor_same hle h2
  have hlo : 0 < lo + -(lo.floor : Rat) := by grind
  have hhi : 0 < hi + -(lo.floor : Rat) := by grind
  refine ⟨Rat.inv_pos.2 hhi, inv_le_inv' hlo (by grind), ?_, ?_⟩
  · have := cfq_step hi
    rw [hs, if_neg (by grind)] at this
    rw [this]; rfl
  · have := cfq_step lo
    rw [if_neg h1] at this
    rw [this]; rfl
theorem frac_sz {q : Rat} {K : Nat} (hz : Sz q K) : Sz (q + -(q.floor : Rat)) K := by
  obtain ⟨a, b⟩ := frac_part q
  have h0 := Int.emod_nonneg q.num (show (q.den : Int) ≠ 0 by have := q.den_nz; omega)
  have h1 := Int.emod_lt_of_pos q.num (show (0 : Int) < q.den by have := q.den_pos; omega)
  refine ⟨?_, by rw [b]; exact hz.2⟩
  rw [a]
  exact Nat.le_trans (limbs_mono (show (q.num % (q.den : Int)).natAbs ≤ q.den by omega)) hz.2
theorem smp_ex : ∀ (k : Nat) (lo hi : Rat), (cfq lo).length + (cfq hi).length ≤ k → 0 < lo → lo ≤ hi → ∃ T, Smp lo hi T := by
  intro k
  induction k with
  | zero =>
    intro lo hi h
    have := List.length_pos_iff.2 (cfq_ne lo)
    omega
  | succ k ih =>
    intro lo hi h h0 hle
    by_cases h1 : lo + -(lo.floor : Rat) = 0
    · exact ⟨_, .whole h1⟩
    by_cases h2 : 1 ≤ hi + -(lo.floor : Rat)
    · exact ⟨_, .up h1 h2⟩
    obtain ⟨a1, a2, a3, a4⟩ := smp_next h0 hle h1 (Rat.not_le.1 h2)
    obtain ⟨T, hT⟩ := ih _ _ (by omega) a1 a2
    exact ⟨_, .step h1 (Rat.not_le.1 h2) hT⟩
theorem simp_fc {lo0 hi0 : Rat} {K L : Nat} {T : List Int} (hz : Sz lo0 K) (h0 : 0 < lo0) (hle : lo0 ≤ hi0) (hK : K + L ≤ 2097152) (hS : Smp lo0 hi0 T) (hl : T.length ≤ 1073741824) : FcOk T (K + L + 3) (K + L) := by
  have h := hS.ok h0 hle
  have h1 := hz.one
  refine ⟨Smp.fok h, hl, by omega, by omega, fun j => ?_⟩
  obtain ⟨a, b⟩ := Smp.size h h0 hle j
  rcases b with b | b
  · exact szi_le (m := lo0.num.natAbs) (by omega) (Nat.le_trans hz.1 (by omega))
  · exact szi_le (m := lo0.den) (by omega) (Nat.le_trans hz.2 (by omega))
theorem sim_pos {lo hi : Rat} (h0 : 0 < lo) (hle : lo ≤ hi) : Best lo hi (sim lo hi) := by
  obtain ⟨T, hT⟩ := smp_ex _ lo hi (Nat.le_refl _) h0 hle
  have h := (hT.ok h0 hle).best
  rw [sim_eq h]; exact h
set_option smartUnfolding false in
set_option maxRecDepth 100000 in
theorem cont_x (q : Rat) (K : Nat) (hz : Sz q K) (hK : K ≤ 2097152) : fnOk ⟨TT, specsOf [RNorm_s, ISign_s, IDivMod_s]⟩ Tryz.f21 [rAv q K] (zlAv (cfq q) K) := by
  have hlen := cfq_len hz
  (repeat ((conv => whnf); refine And.intro (by first | omega | exact ⟨by omega, trivial⟩ | exact ⟨by omega, by omega⟩ | rfl | exact And.intro rfl (by omega)) ?_)) <;> try (conv => whnf)
  refine ⟨⟨List Int × Int × Nat, fun x => x.1 ++ cf x.2.1 x.2.2 = cfq q ∧ SzI x.2.1 K ∧ SzI (x.2.2 : Int) K, fun x => [.obj 3 (.cons (.intC x.2.1 K) .nil), .obj 4 (.cons (.intC (x.2.2 : Int) K) .nil), .own 5 24 2 x.1.length (zl x.1 K), .slot 5 (.row 5)], fun x => x.2.2, 0⟩, ([], q.num, q.den), ⟨rfl, hz.num, hz.den⟩, ?_⟩
  conv => whnf
  refine And.intro ?_ ?_
  · all_goals (repeat' first | exact True.intro | exact rfl | apply And.intro | assumption | omega | (exact Or.inr (by assumption)) | (refine congrArg (Value.int IntKind.i64) ?_; omega))
  conv => whnf
  rintro ⟨l, n, d⟩ ⟨hl, h1, h2⟩
  (repeat ((conv => whnf); refine And.intro (by first | omega | exact ⟨by omega, trivial⟩ | exact ⟨by omega, by omega⟩ | rfl | exact And.intro rfl (by omega)) ?_)) <;> try (conv => whnf)
  refine And.intro (fun h3 => ?_) (fun h3 => ?_)
  · have hd : (d : Int) ≠ 0 := (sgn_nz _).1 h3
    have hd0 : d ≠ 0 := by omega
    have hm0 := Int.emod_nonneg n hd
    have hm1 := Int.emod_lt_of_pos n (show (0 : Int) < d by omega)
    have e := cf_pos n hd0
    have eL : l.length + 1 = (l ++ [n / (d : Int)]).length := by simp
    have eN : n % (d : Int) = ((n % (d : Int)).toNat : Int) := (Int.toNat_of_nonneg hm0).symm
    have hll := congrArg List.length hl
    rw [List.length_append] at hll
    have hc : (cf n d).length = (cf d (n % (d : Int)).toNat).length + 1 := by rw [e]; rfl
    (repeat ((conv => whnf); refine And.intro (by first | omega | exact ⟨by omega, trivial⟩ | exact ⟨by omega, by omega⟩ | rfl | exact And.intro rfl (by omega)) ?_)) <;> try (conv => whnf)
    refine ⟨(l ++ [n / (d : Int)], (d : Int), (n % (d : Int)).toNat), ⟨by rw [← hl]; simp only [List.append_assoc]; rw [e]; rfl, h2, by simp only; rw [Int.toNat_of_nonneg hm0]; exact szi_mod h2 hd⟩, by simp only; omega, ?_⟩
    conv => whnf
    all_goals (repeat' first | exact True.intro | exact rfl | apply And.intro | assumption | omega | (exact Or.inr (by assumption)) | (refine congrArg (Value.int IntKind.i64) ?_; omega))
    exact zl_app (.inl (Nat.le_refl K))
  · have hd0 : d = 0 := by
      have : ¬ ((d : Int) ≠ 0) := fun h => by rw [(sgn_nz _).2 h] at h3; cases h3
      omega
    subst hd0
    have e : l = cfq q := by rw [← hl]; simp only [cf_zero, List.append_nil]
    subst e
    (repeat ((conv => whnf); refine And.intro (by first | omega | exact ⟨by omega, trivial⟩ | exact ⟨by omega, by omega⟩ | rfl | exact And.intro rfl (by omega)) ?_)) <;> try (conv => whnf)
    all_goals (repeat' first | exact True.intro | exact rfl | apply And.intro | assumption | omega | (exact Or.inr (by assumption)) | (refine congrArg (Value.int IntKind.i64) ?_; omega))
    exact zl_refl _ (Nat.le_refl K)

set_option maxRecDepth 100000 in
noncomputable def cont_s : PSpec Tryz.prog := ⟨21, spQ (fun _ K => K ≤ 2097152) (fun q K => zlAv (cfq q) K), spQ_fn (fn := Tryz.f21) (ctx_ok TT_ok [RNorm_s, ISign_s, IDivMod_s]) mixed_ok (by kernel_rfl) (fun q K hz _ hK => cont_x q K hz hK), by kernel_rfl⟩

set_option smartUnfolding false in
set_option maxRecDepth 100000 in
theorem RNew_x (s : Bool) (a K : Nat) (s' : Bool) (b L : Nat) (g : Bool) (hK : K + L ≤ 1073741824) (hg : g = true ↔ sg s' b ≠ 0) : fnOk ⟨TT, specsOf [ISign_s, RNorm_s]⟩ Tryz.f63 [iwAv s a K, iwAv s' b L] (optAv (Rat.divInt (sg s a) (sg s' b)) (max (max K L) 1) g) := by
  cases g with
  | false =>
    have h0 : sg s' b = 0 := Classical.byContradiction fun h => by have := hg.2 h; cases this
    have hs : (sgn (sg s' b) == 0) = true := (sgz _).2 h0
    (repeat ((conv => whnf); refine And.intro (by first | omega | exact ⟨by omega, trivial⟩ | exact ⟨by omega, by omega⟩ | rfl | exact And.intro rfl (by omega)) ?_)) <;> try (conv => whnf)
    refine And.intro (fun h1 => ?_) (fun h1 => ?_)
    · (repeat ((conv => whnf); refine And.intro (by first | omega | exact ⟨by omega, trivial⟩ | exact ⟨by omega, by omega⟩ | rfl | exact And.intro rfl (by omega)) ?_)) <;> try (conv => whnf)
      all_goals (repeat' first | exact True.intro | exact rfl | apply And.intro | assumption | omega | (exact Or.inr (by assumption)) | (refine congrArg (Value.int IntKind.i64) ?_; omega))
    · exact absurd (hs.symm.trans h1) (by decide)
  | true =>
    have h0 : sg s' b ≠ 0 := hg.1 rfl
    (repeat ((conv => whnf); refine And.intro (by first | omega | exact ⟨by omega, trivial⟩ | exact ⟨by omega, by omega⟩ | rfl | exact And.intro rfl (by omega)) ?_)) <;> try (conv => whnf)
    refine And.intro (fun h1 => ?_) (fun h1 => ?_)
    · exact absurd ((sgz _).1 h1) h0
    · (repeat ((conv => whnf); refine And.intro (by first | omega | exact ⟨by omega, trivial⟩ | exact ⟨by omega, by omega⟩ | rfl | exact And.intro rfl (by omega)) ?_)) <;> try (conv => whnf)
      exact And.intro (And.intro (And.intro (new_eq s s' a b) (.inl (by omega))) True.intro) (And.intro rfl True.intro)

set_option maxRecDepth 100000 in
noncomputable def RNew_s : PSpec Tryz.prog := ⟨63, spZZg (fun _ K n L (g : Bool) => K + L ≤ 1073741824 ∧ (g = true ↔ n ≠ 0)) (fun m K n L g => optAv (Rat.divInt m n) (max (max K L) 1) g), spZZg_of fun own w x y m K n L g hown hx hy hp => by
    obtain ⟨s, a, rfl, hx2⟩ := rob_iw hx
    obtain ⟨s', b, rfl, hy2⟩ := rob_iw hy
    exact fn_ok (ctx_ok TT_ok [ISign_s, RNorm_s]) mixed_ok (fn := Tryz.f63) (by kernel_rfl) (RNew_x s a K s' b L g hp.1 hp.2) hown (.cons hx2 (.cons hy2 .nil)), by kernel_rfl⟩

set_option smartUnfolding false in
set_option maxRecDepth 100000 in
theorem fromc_x (l : List Int) (K M : Nat) (h : FcOk l K M) : fnOk ⟨TT, specsOf [IFromInt_s, ISign_s, IMul_s, IAdd_s, RNew_s]⟩ Tryz.f77 [zlAv l K] (qyAv (fval l) M) := by
  have hlp : 0 < l.length := List.length_pos_iff.2 h.ok.1
  have hll := h.len
  have hKM := h.K
  have hM1 := h.one
  have w1 : IntKind.i64.wrap ((l.length : Int) - 1) = (l.length : Int) - 1 := w64 (by omega) (by omega)
  have w2 : IntKind.i64.wrap ((l.length : Int) - 2) = (l.length : Int) - 2 := w64 (by omega) (by omega)
  (repeat ((conv => whnf); refine And.intro (by first | omega | exact ⟨by omega, trivial⟩ | exact ⟨by omega, by omega⟩ | rfl | exact And.intro rfl (by omega)) ?_)) <;> try (conv => whnf)
  refine And.intro (fun h1 => ?_) (fun h1 => ?_)
  · have h2 : (l.length : Int) = 0 := eq_of_beq h1
    omega
  have hcl := cv_last hlp
  have et : (IntKind.i64.wrap ((l.length : Int) - 1)).toNat = l.length - 1 := by rw [w1]; omega
  have e0 : l.getD (IntKind.i64.wrap ((l.length : Int) - 1)).toNat 0 = (cv (l.drop (l.length - 1))).1 := by rw [et, hcl]
  have e1 : (1 : Int) = (cv (l.drop (l.length - 1))).2 := by rw [hcl]
  have sA : SzI (l.getD (IntKind.i64.wrap ((l.length : Int) - 1)).toNat 0) M := by rw [e0]; exact h.sz _
  have sB := szi_one hM1
  (repeat ((conv => whnf); refine And.intro (by first | omega | exact ⟨by omega, trivial⟩ | exact ⟨by omega, by omega⟩ | rfl | exact And.intro rfl (by omega)) ?_)) <;> try (conv => whnf)
  refine ⟨⟨Nat, fun j => j + 1 ≤ l.length, fun j => [.slot 6 (.val (.int .i64 ((j : Int) - 1))), .obj 4 (.cons (.intC (cv (l.drop j)).1 M) .nil), .obj 5 (.cons (.intC (cv (l.drop j)).2 M) .nil)], fun j => j, 0⟩, l.length - 1, by omega, ?_⟩
  conv => whnf
  refine And.intro ?_ ?_
  · all_goals (repeat' first | exact True.intro | exact rfl | apply And.intro | assumption | omega | (exact Or.inr (by assumption)) | (refine congrArg (Value.int IntKind.i64) ?_; omega))
  conv => whnf
  rintro j hj
  have w3 : IntKind.i64.wrap ((j : Int) - 1 - 1) = (j : Int) - 1 - 1 := w64 (by omega) (by omega)
  (repeat ((conv => whnf); refine And.intro (by first | omega | exact ⟨by omega, trivial⟩ | exact ⟨by omega, by omega⟩ | rfl | exact And.intro rfl (by omega)) ?_)) <;> try (conv => whnf)
  refine And.intro (fun h2 => ?_) (fun h2 => ?_)
  · have hj1 : 1 ≤ j := by have := of_decide_eq_true h2; omega
    (repeat ((conv => whnf); refine And.intro (by first | omega | exact ⟨by omega, trivial⟩ | exact ⟨by omega, by omega⟩ | rfl | exact And.intro rfl (by omega)) ?_)) <;> try (conv => whnf)
    refine And.intro (fun h3 => ?_) (fun h3 => ?_)
    · exact absurd ((sgz _).1 h3) (h.ok.2 j hj1 (by omega))
    have hst := cv_step (l := l) (j := j - 1) (by omega)
    rw [show j - 1 + 1 = j by omega] at hst
    have eA : l.getD ((j : Int) - 1).toNat 0 * (cv (l.drop j)).1 + (cv (l.drop j)).2 = (cv (l.drop (j - 1))).1 := by rw [hst, show ((j : Int) - 1).toNat = j - 1 by omega]
    have eB : (cv (l.drop j)).1 = (cv (l.drop (j - 1))).2 := by rw [hst]
    have sC : SzI (l.getD ((j : Int) - 1).toNat 0 * (cv (l.drop j)).1 + (cv (l.drop j)).2) M := by rw [eA]; exact h.sz _
    (repeat ((conv => whnf); refine And.intro (by first | omega | exact ⟨by omega, trivial⟩ | exact ⟨by omega, by omega⟩ | rfl | exact And.intro rfl (by omega)) ?_)) <;> try (conv => whnf)
    refine ⟨j - 1, by omega, (show j - 1 < j by omega), ?_⟩
    conv => whnf
    all_goals (repeat' first | exact True.intro | exact rfl | apply And.intro | assumption | omega | (exact Or.inr (by assumption)) | (refine congrArg (Value.int IntKind.i64) ?_; omega))
  have hj0 : j = 0 := by have := of_decide_eq_false h2; omega
  subst hj0
  (repeat ((conv => whnf); refine And.intro (by first | omega | exact ⟨by omega, trivial⟩ | exact ⟨by omega, by omega⟩ | rfl | exact And.intro rfl (by omega)) ?_)) <;> try (conv => whnf)
  refine ⟨true, ⟨by omega, by omega, by simp only [true_iff]; exact h.ok.den hlp⟩, ?_⟩
  (repeat ((conv => whnf); refine And.intro (by first | omega | exact ⟨by omega, trivial⟩ | exact ⟨by omega, by omega⟩ | rfl | exact And.intro rfl (by omega)) ?_)) <;> try (conv => whnf)
  all_goals (repeat' first | exact True.intro | exact rfl | apply And.intro | assumption | omega | (exact Or.inr (by assumption)) | (refine congrArg (Value.int IntKind.i64) ?_; omega))

set_option maxRecDepth 100000 in
noncomputable def fromc_s : PSpec Tryz.prog := ⟨77, ghSpec ((List Int × Nat) × Nat) (fun g => [zlAv g.1.1 g.1.2]) (fun g => FcOk g.1.1 g.1.2 g.2) (fun g => qyAv (fval g.1.1) g.2), ghSpec_ok (fn := Tryz.f77) (ctx_ok TT_ok [IFromInt_s, ISign_s, IMul_s, IAdd_s, RNew_s]) mixed_ok (by kernel_rfl) (fun g hp => fromc_x g.1.1 g.1.2 g.2 hp), by kernel_rfl⟩

set_option smartUnfolding false in
set_option maxRecDepth 100000 in
theorem plus_x (p : Int) (K : Nat) (s : Int) (K' : Nat) (t : Int) (J : Nat) (p' : Int) (L : Nat) (s' : Int) (L' g : Nat) (hK : K + K' + L + L' + J ≤ 268435456) (h1 : SzI (p + t * p') g) (h2 : SzI (s + t * s') g) : fnOk ⟨TT, specsOf [IMul_s, IAdd_s]⟩ Tryz.f32 [.agg (.cons (.intC p K) (.cons (.intC s K') .nil)), nAv t J, .agg (.cons (.intC p' L) (.cons (.intC s' L') .nil))] (frAv (p + t * p') (s + t * s') g) := by
  (repeat ((conv => whnf); refine And.intro (by first | omega | exact ⟨by omega, trivial⟩ | exact ⟨by omega, by omega⟩ | rfl | exact And.intro rfl (by omega)) ?_)) <;> try (conv => whnf)
  exact And.intro (And.intro rfl (.inr h1)) (And.intro (And.intro rfl (.inr h2)) True.intro)

set_option smartUnfolding false in
set_option maxRecDepth 100000 in
theorem value_x (p : Int) (K : Nat) (s : Int) (L : Nat) (hK : K + L ≤ 1073741824) (hs : s ≠ 0) : fnOk ⟨TT, specsOf [RNew_s]⟩ Tryz.f33 [.agg (.cons (.intC p K) (.cons (.intC s L) .nil))] (qAv (Rat.divInt p s) (max (max K L) 1)) := by
  (repeat ((conv => whnf); refine And.intro (by first | omega | exact ⟨by omega, trivial⟩ | exact ⟨by omega, by omega⟩ | rfl | exact And.intro rfl (by omega)) ?_)) <;> try (conv => whnf)
  refine ⟨true, ⟨by omega, by omega, by simp [hs]⟩, ?_⟩
  (repeat ((conv => whnf); refine And.intro (by first | omega | exact ⟨by omega, trivial⟩ | exact ⟨by omega, by omega⟩ | rfl | exact And.intro rfl (by omega)) ?_)) <;> try (conv => whnf)
  all_goals (repeat' first | exact True.intro | exact rfl | apply And.intro | assumption | omega | (exact Or.inr (by assumption)) | (refine congrArg (Value.int IntKind.i64) ?_; omega))

set_option maxRecDepth 100000 in
def plus_s : PSpec Tryz.prog := ⟨32, spPlus, (by
  intro own w vs xs hown ha
  generalize e : spPlus vs = z
  unfold spPlus at e
  split at e
  · rename_i p K s K' b p' L s' L'
    cases hr : Go.Vx.asInt b with
    | none => rw [hr] at e; subst e; trivial
    | some q =>
      obtain ⟨t, J⟩ := q
      rw [hr] at e
      subst e
      intro g hp
      cases ha with
      | cons h1 ht =>
        cases ht with
        | cons h2 ht =>
          exact fn_ok (ctx_ok TT_ok [IMul_s, IAdd_s]) mixed_ok (fn := Tryz.f32) (by kernel_rfl) (plus_x p K s K' t J p' L s' L' g hp.1 hp.2.1 hp.2.2) hown (.cons h1 (.cons (rob_z h2 hr) ht))
  · subst e; trivial), by kernel_rfl⟩
set_option maxRecDepth 100000 in
def value_s : PSpec Tryz.prog := ⟨33, spValue, (by
  intro own w vs xs hown ha
  generalize e : spValue vs = z
  unfold spValue at e
  split at e
  · subst e
    intro hp
    exact fn_ok (ctx_ok TT_ok [RNew_s]) mixed_ok (fn := Tryz.f33) (by kernel_rfl) (value_x _ _ _ _ hp.1 hp.2) hown ha
  · subst e; trivial), by kernel_rfl⟩

set_option smartUnfolding false in
set_option maxRecDepth 100000 in
theorem neigh_x (q : Rat) (K : Nat) (M : Int) (L : Nat) (g : Bool) (hz : Sz q K) (hK : K ≤ 2097152) (hL : L ≤ 2097152) (hg : g = true ↔ 1 ≤ M) : fnOk ⟨TT, specsOf [IFromInt_s, ICmp_s, RNorm_s, cont_s, ISub_s, IDivMod_s, plus_s, value_s]⟩ Tryz.f11 [rAv q K, nAv M L] (nbAv q M K g) := by
  cases g with
  | false =>
    have hM : ¬ 1 ≤ M := fun h => by have := hg.2 h; cases this
    (repeat ((conv => whnf); refine And.intro (by first | omega | exact ⟨by omega, trivial⟩ | exact ⟨by omega, by omega⟩ | rfl | exact And.intro rfl (by omega)) ?_)) <;> try (conv => whnf)
    refine And.intro (fun h1 => ?_) (fun h1 => ?_)
    · (repeat ((conv => whnf); refine And.intro (by first | omega | exact ⟨by omega, trivial⟩ | exact ⟨by omega, by omega⟩ | rfl | exact And.intro rfl (by omega)) ?_)) <;> try (conv => whnf)
      all_goals (repeat' first | exact True.intro | exact rfl | apply And.intro | assumption | omega | (exact Or.inr (by assumption)) | (refine congrArg (Value.int IntKind.i64) ?_; omega))
    · exact absurd (cmpZ_lt.2 (show M < 1 by omega)) (of_decide_eq_false h1)
  | true =>
    have hM : 1 ≤ M := hg.1 rfl
    have hN := cfq_len hz
    have hN1 : 0 < (cfq q).length := List.length_pos_iff.2 (cfq_ne q)
    have hz1 := hz.one
    (repeat ((conv => whnf); refine And.intro (by first | omega | exact ⟨by omega, trivial⟩ | exact ⟨by omega, by omega⟩ | rfl | exact And.intro rfl (by omega)) ?_)) <;> try (conv => whnf)
    refine And.intro (fun h1 => ?_) (fun h1 => ?_)
    · exact absurd (cmpZ_lt.1 (of_decide_eq_true h1)) (by omega)
    (repeat ((conv => whnf); refine And.intro (by first | omega | exact ⟨by omega, trivial⟩ | exact ⟨by omega, by omega⟩ | rfl | exact And.intro rfl (by omega)) ?_)) <;> try (conv => whnf)
    refine And.intro (fun h2 => ?_) (fun h2 => ?_)
    · (repeat ((conv => whnf); refine And.intro (by first | omega | exact ⟨by omega, trivial⟩ | exact ⟨by omega, by omega⟩ | rfl | exact And.intro rfl (by omega)) ?_)) <;> try (conv => whnf)
      have hd : (q.den : Int) ≤ M := cmpZ_le.1 (of_decide_eq_true h2)
      obtain ⟨b1, b2⟩ := below_self hd
      exact And.intro (And.intro (And.intro (bel_eq b1).symm (.inl (Nat.le_succ K))) True.intro) (And.intro (And.intro (And.intro (abv_eq b2).symm (.inl (Nat.le_succ K))) True.intro) (And.intro rfl True.intro))
    have hd : M < (q.den : Int) := by
      have := of_decide_eq_false h2
      rw [cmpZ_le] at this
      omega
    (repeat ((conv => whnf); refine And.intro (by first | omega | exact ⟨by omega, trivial⟩ | exact ⟨by omega, by omega⟩ | rfl | exact And.intro rfl (by omega)) ?_)) <;> try (conv => whnf)
    refine ⟨⟨Nat, fun j => j + 1 ≤ (cfq q).length ∧ (cv ((cfq q).take (j + 1))).2 ≤ M ∧ (cw ((cfq q).take (j + 1))).2 ≤ M, fun j => [.slot 49 (.val (.int .i64 (j : Int))), .slot 12 (.val (.bool (decide ((j + 1) % 2 = 1)))), .obj 10 (.cons (.intC (cw ((cfq q).take (j + 1))).1 (K + 1)) (.cons (.intC (cw ((cfq q).take (j + 1))).2 (K + 1)) .nil)), .obj 11 (.cons (.intC (cv ((cfq q).take (j + 1))).1 (K + 1)) (.cons (.intC (cv ((cfq q).take (j + 1))).2 (K + 1)) .nil))], fun j => (cfq q).length - j, 0⟩, 0, ⟨by omega, ?_⟩, ?_⟩
    · rw [take_snoc (by omega), List.take_zero]; simp [cv, cw]; omega
    have hT1 : (cfq q).take (0 + 1) = [(cfq q).getD 0 0] := by
      rw [take_snoc hN1, List.take_zero, List.getD_eq_getElem?_getD, List.getElem?_eq_getElem hN1]; rfl
    have E1 : (1 : Int) = (cw ((cfq q).take (0 + 1))).1 := by rw [hT1]; simp [cw]
    have E2 : (0 : Int) = (cw ((cfq q).take (0 + 1))).2 := by rw [hT1]; simp [cw]
    have E3 : (cfq q).getD (0 : Int).toNat 0 = (cv ((cfq q).take (0 + 1))).1 := by rw [hT1]; simp [cv]
    have E4 : (1 : Int) = (cv ((cfq q).take (0 + 1))).2 := by rw [hT1]; simp [cv]
    conv => whnf
    refine And.intro ?_ ?_
    · all_goals (repeat' first | exact True.intro | exact rfl | apply And.intro | assumption | omega | (exact Or.inr (by assumption)) | (refine congrArg (Value.int IntKind.i64) ?_; omega))
    conv => whnf
    rintro j ⟨hj, hf, hw⟩
    have P := Gm.part q (i := j + 1) (by omega) hj
    have hs1 := P.s1
    obtain ⟨z1, z2⟩ := fr_sz hz hj
    have w3 : IntKind.i64.wrap ((j : Int) + 1) = (j : Int) + 1 := w64 (by omega) (by omega)
    (repeat ((conv => whnf); refine And.intro (by first | omega | exact ⟨by omega, trivial⟩ | exact ⟨by omega, by omega⟩ | rfl | exact And.intro rfl (by omega)) ?_)) <;> try (conv => whnf)
    refine And.intro (fun h3 => ?_) (fun h3 => ?_)
    · have hi : j + 1 < (cfq q).length := by have := of_decide_eq_true h3; omega
      have hTt : (cfq q).getD ((j : Int).toNat + (1 : Int).toNat) 0 = (cfq q)[j + 1] := by
        rw [show (j : Int).toNat + (1 : Int).toNat = j + 1 by omega, List.getD_eq_getElem?_getD, List.getElem?_eq_getElem hi]; rfl
      have P2 := Gm.part q (i := j + 2) (by omega) (by omega)
      have hct := cv_take hi
      have hcw := cw_take hi
      obtain ⟨y1, y2⟩ := fr_sz hz (i := j + 2) (by omega)
      (repeat ((conv => whnf); refine And.intro (by first | omega | exact ⟨by omega, trivial⟩ | exact ⟨by omega, by omega⟩ | rfl | exact And.intro rfl (by omega)) ?_)) <;> try (conv => whnf)
      refine And.intro (fun h4 => ?_) (fun h4 => ?_)
      · have hlt : (M - (cw ((cfq q).take (j + 1))).2) / (cv ((cfq q).take (j + 1))).2 < (cfq q)[j + 1] := by
          rw [← hTt]; exact cmpZ_lt.1 (of_decide_eq_true h4)
        obtain ⟨⟨n0, n1, n2, n3⟩, n4, n5⟩ := nbr_ok q (i := j + 1) (by omega) hi hf rfl hw hlt
        have l1 : (limbs 1).length = 1 := limbs1_len
        have x1 := szi_le n3 (limbs_add_le hz.1 (show (limbs 1).length ≤ K by omega))
        have x2 : SzI ((cw ((cfq q).take (j + 1))).2 + (M - (cw ((cfq q).take (j + 1))).2) / (cv ((cfq q).take (j + 1))).2 * (cv ((cfq q).take (j + 1))).2) (K + 1) := szi_le (m := q.den) (by omega) (Nat.le_trans hz.2 (Nat.le_succ K))
        (repeat ((conv => whnf); refine And.intro (by first | omega | exact ⟨by omega, trivial⟩ | exact ⟨by omega, by omega⟩ | rfl | exact And.intro rfl (by omega)) ?_)) <;> try (conv => whnf)
        refine ⟨K + 1, ⟨by omega, x1, x2⟩, ?_⟩
        (repeat ((conv => whnf); refine And.intro (by first | omega | exact ⟨by omega, trivial⟩ | exact ⟨by omega, by omega⟩ | rfl | exact And.intro rfl (by omega)) ?_)) <;> try (conv => whnf)
        refine And.intro (fun h5 => ?_) (fun h5 => ?_)
        · have h6 : (j + 1) % 2 = 1 := of_decide_eq_true h5
          obtain ⟨m1, m2⟩ := n4 h6
          have b1 : Rat.divInt (cv ((cfq q).take (j + 1))).1 (cv ((cfq q).take (j + 1))).2 = bel q M := (bel_eq m1).symm
          have b2 : Rat.divInt ((cw ((cfq q).take (j + 1))).1 + (M - (cw ((cfq q).take (j + 1))).2) / (cv ((cfq q).take (j + 1))).2 * (cv ((cfq q).take (j + 1))).1) ((cw ((cfq q).take (j + 1))).2 + (M - (cw ((cfq q).take (j + 1))).2) / (cv ((cfq q).take (j + 1))).2 * (cv ((cfq q).take (j + 1))).2) = abv q M := (abv_eq m2).symm
          (repeat ((conv => whnf); refine And.intro (by first | omega | exact ⟨by omega, trivial⟩ | exact ⟨by omega, by omega⟩ | rfl | exact And.intro rfl (by omega)) ?_)) <;> try (conv => whnf)
          all_goals (repeat' first | exact True.intro | exact rfl | apply And.intro | assumption | omega | (exact Or.inr (by assumption)) | (refine congrArg (Value.int IntKind.i64) ?_; omega))
        · have h6 : (j + 1) % 2 = 0 := by have := of_decide_eq_false h5; omega
          obtain ⟨m1, m2⟩ := n5 h6
          have b1 : Rat.divInt ((cw ((cfq q).take (j + 1))).1 + (M - (cw ((cfq q).take (j + 1))).2) / (cv ((cfq q).take (j + 1))).2 * (cv ((cfq q).take (j + 1))).1) ((cw ((cfq q).take (j + 1))).2 + (M - (cw ((cfq q).take (j + 1))).2) / (cv ((cfq q).take (j + 1))).2 * (cv ((cfq q).take (j + 1))).2) = bel q M := (bel_eq m1).symm
          have b2 : Rat.divInt (cv ((cfq q).take (j + 1))).1 (cv ((cfq q).take (j + 1))).2 = abv q M := (abv_eq m2).symm
          (repeat ((conv => whnf); refine And.intro (by first | omega | exact ⟨by omega, trivial⟩ | exact ⟨by omega, by omega⟩ | rfl | exact And.intro rfl (by omega)) ?_)) <;> try (conv => whnf)
          all_goals (repeat' first | exact True.intro | exact rfl | apply And.intro | assumption | omega | (exact Or.inr (by assumption)) | (refine congrArg (Value.int IntKind.i64) ?_; omega))
      · have hge : (cfq q)[j + 1] ≤ (M - (cw ((cfq q).take (j + 1))).2) / (cv ((cfq q).take (j + 1))).2 := by
          rw [← hTt]
          have := of_decide_eq_false h4
          rw [cmpZ_lt] at this
          omega
        have E5 : (cw ((cfq q).take (j + 1))).1 + (cfq q).getD ((j : Int).toNat + (1 : Int).toNat) 0 * (cv ((cfq q).take (j + 1))).1 = (cv ((cfq q).take (j + 1 + 1))).1 := by rw [hTt, hct]
        have E6 : (cw ((cfq q).take (j + 1))).2 + (cfq q).getD ((j : Int).toNat + (1 : Int).toNat) 0 * (cv ((cfq q).take (j + 1))).2 = (cv ((cfq q).take (j + 1 + 1))).2 := by rw [hTt, hct]
        have y1' : SzI ((cw ((cfq q).take (j + 1))).1 + (cfq q).getD ((j : Int).toNat + (1 : Int).toNat) 0 * (cv ((cfq q).take (j + 1))).1) (K + 1) := by rw [E5]; exact y1
        have y2' : SzI ((cw ((cfq q).take (j + 1))).2 + (cfq q).getD ((j : Int).toNat + (1 : Int).toNat) 0 * (cv ((cfq q).take (j + 1))).2) (K + 1) := by rw [E6]; exact y2
        have E7 : Value.bool (!decide ((j + 1) % 2 = 1)) = Value.bool (decide ((j + 1 + 1) % 2 = 1)) := by
          congr 1
          by_cases h6 : (j + 1) % 2 = 1
          · rw [decide_eq_true h6, decide_eq_false (by omega)]; rfl
          · rw [decide_eq_false h6, decide_eq_true (by omega)]; rfl
        have E8 : (cv ((cfq q).take (j + 1))).1 = (cw ((cfq q).take (j + 1 + 1))).1 := by rw [hcw]
        have E9 : (cv ((cfq q).take (j + 1))).2 = (cw ((cfq q).take (j + 1 + 1))).2 := by rw [hcw]
        have hm : (M - (cw ((cfq q).take (j + 1))).2) / (cv ((cfq q).take (j + 1))).2 * (cv ((cfq q).take (j + 1))).2 ≤ M - (cw ((cfq q).take (j + 1))).2 := Int.ediv_mul_le _ (by omega)
        have hm2 := Int.mul_le_mul_of_nonneg_right hge (show 0 ≤ (cv ((cfq q).take (j + 1))).2 by omega)
        have hfM : (cv ((cfq q).take (j + 1 + 1))).2 ≤ M := by rw [hct]; simp only; omega
        have hwM : (cw ((cfq q).take (j + 1 + 1))).2 ≤ M := by rw [← E9]; exact hf
        (repeat ((conv => whnf); refine And.intro (by first | omega | exact ⟨by omega, trivial⟩ | exact ⟨by omega, by omega⟩ | rfl | exact And.intro rfl (by omega)) ?_)) <;> try (conv => whnf)
        refine ⟨K + 1, ⟨by omega, y1', y2'⟩, ?_⟩
        (repeat ((conv => whnf); refine And.intro (by first | omega | exact ⟨by omega, trivial⟩ | exact ⟨by omega, by omega⟩ | rfl | exact And.intro rfl (by omega)) ?_)) <;> try (conv => whnf)
        refine ⟨j + 1, ⟨by omega, hfM, hwM⟩, (show (cfq q).length - (j + 1) < (cfq q).length - j by omega), ?_⟩
        conv => whnf
        all_goals (repeat' first | exact True.intro | exact rfl | apply And.intro | assumption | omega | (exact Or.inr (by assumption)) | (refine congrArg (Value.int IntKind.i64) ?_; omega))
    · exfalso
      have hjN : j + 1 = (cfq q).length := by have := of_decide_eq_false h3; omega
      rw [hjN, List.take_length, cv_cfq] at hf
      simp only at hf
      omega

set_option maxRecDepth 100000 in
noncomputable def neigh_s : PSpec Tryz.prog := ⟨11, spQZg (fun _ K n L (g : Bool) => K ≤ 2097152 ∧ L ≤ 2097152 ∧ (g = true ↔ 1 ≤ n)) (fun m K n _ g => nbAv m n K g), spQZg_fn (fn := Tryz.f11) (ctx_ok TT_ok [IFromInt_s, ICmp_s, RNorm_s, cont_s, ISub_s, IDivMod_s, plus_s, value_s]) mixed_ok (by kernel_rfl) (fun m K n L g hz _ hp => neigh_x m K n L g hz hp.1 hp.2.1 hp.2.2), by kernel_rfl⟩

set_option smartUnfolding false in
set_option maxRecDepth 100000 in
theorem below_x (q : Rat) (K : Nat) (M : Int) (L : Nat) (g : Bool) (hK : K ≤ 2097152) (hL : L ≤ 2097152) (hg : g = true ↔ 1 ≤ M) : fnOk ⟨TT, specsOf [neigh_s]⟩ Tryz.f4 [rAv q K, nAv M L] (optAv (bel q M) (K + 1) g) := by
  cases g with
  | false =>
    (repeat ((conv => whnf); refine And.intro (by first | omega | exact ⟨by omega, trivial⟩ | exact ⟨by omega, by omega⟩ | rfl | exact And.intro rfl (by omega)) ?_)) <;> try (conv => whnf)
    refine ⟨false, ⟨by omega, hK, hL, hg⟩, ?_⟩
    (repeat ((conv => whnf); refine And.intro (by first | omega | exact ⟨by omega, trivial⟩ | exact ⟨by omega, by omega⟩ | rfl | exact And.intro rfl (by omega)) ?_)) <;> try (conv => whnf)
    all_goals (repeat' first | exact True.intro | exact rfl | apply And.intro | assumption | omega | (exact Or.inr (by assumption)) | (refine congrArg (Value.int IntKind.i64) ?_; omega))
  | true =>
    (repeat ((conv => whnf); refine And.intro (by first | omega | exact ⟨by omega, trivial⟩ | exact ⟨by omega, by omega⟩ | rfl | exact And.intro rfl (by omega)) ?_)) <;> try (conv => whnf)
    refine ⟨true, ⟨by omega, hK, hL, hg⟩, ?_⟩
    (repeat ((conv => whnf); refine And.intro (by first | omega | exact ⟨by omega, trivial⟩ | exact ⟨by omega, by omega⟩ | rfl | exact And.intro rfl (by omega)) ?_)) <;> try (conv => whnf)
    all_goals (repeat' first | exact True.intro | exact rfl | apply And.intro | assumption | omega | (exact Or.inr (by assumption)) | (refine congrArg (Value.int IntKind.i64) ?_; omega))

set_option maxRecDepth 100000 in
noncomputable def below_s : PSpec Tryz.prog := ⟨4, spQZg (fun _ K n L (g : Bool) => K ≤ 2097152 ∧ L ≤ 2097152 ∧ (g = true ↔ 1 ≤ n)) (fun m K n _ g => optAv (bel m n) (K + 1) g), spQZg_fn (fn := Tryz.f4) (ctx_ok TT_ok [neigh_s]) mixed_ok (by kernel_rfl) (fun m K n L g _ _ hp => below_x m K n L g hp.1 hp.2.1 hp.2.2), by kernel_rfl⟩

set_option smartUnfolding false in
set_option maxRecDepth 100000 in
theorem above_x (q : Rat) (K : Nat) (M : Int) (L : Nat) (g : Bool) (hK : K ≤ 2097152) (hL : L ≤ 2097152) (hg : g = true ↔ 1 ≤ M) : fnOk ⟨TT, specsOf [neigh_s]⟩ Tryz.f7 [rAv q K, nAv M L] (optAv (abv q M) (K + 1) g) := by
  cases g with
  | false =>
    (repeat ((conv => whnf); refine And.intro (by first | omega | exact ⟨by omega, trivial⟩ | exact ⟨by omega, by omega⟩ | rfl | exact And.intro rfl (by omega)) ?_)) <;> try (conv => whnf)
    refine ⟨false, ⟨by omega, hK, hL, hg⟩, ?_⟩
    (repeat ((conv => whnf); refine And.intro (by first | omega | exact ⟨by omega, trivial⟩ | exact ⟨by omega, by omega⟩ | rfl | exact And.intro rfl (by omega)) ?_)) <;> try (conv => whnf)
    all_goals (repeat' first | exact True.intro | exact rfl | apply And.intro | assumption | omega | (exact Or.inr (by assumption)) | (refine congrArg (Value.int IntKind.i64) ?_; omega))
  | true =>
    (repeat ((conv => whnf); refine And.intro (by first | omega | exact ⟨by omega, trivial⟩ | exact ⟨by omega, by omega⟩ | rfl | exact And.intro rfl (by omega)) ?_)) <;> try (conv => whnf)
    refine ⟨true, ⟨by omega, hK, hL, hg⟩, ?_⟩
    (repeat ((conv => whnf); refine And.intro (by first | omega | exact ⟨by omega, trivial⟩ | exact ⟨by omega, by omega⟩ | rfl | exact And.intro rfl (by omega)) ?_)) <;> try (conv => whnf)
    all_goals (repeat' first | exact True.intro | exact rfl | apply And.intro | assumption | omega | (exact Or.inr (by assumption)) | (refine congrArg (Value.int IntKind.i64) ?_; omega))

set_option maxRecDepth 100000 in
noncomputable def above_s : PSpec Tryz.prog := ⟨7, spQZg (fun _ K n L (g : Bool) => K ≤ 2097152 ∧ L ≤ 2097152 ∧ (g = true ↔ 1 ≤ n)) (fun m K n _ g => optAv (abv m n) (K + 1) g), spQZg_fn (fn := Tryz.f7) (ctx_ok TT_ok [neigh_s]) mixed_ok (by kernel_rfl) (fun m K n L g _ _ hp => above_x m K n L g hp.1 hp.2.1 hp.2.2), by kernel_rfl⟩

set_option smartUnfolding false in
set_option maxRecDepth 100000 in
theorem simpP_x (lo0 : Rat) (K : Nat) (hi0 : Rat) (L : Nat) (hz : Sz lo0 K) (hy : Sz hi0 L) (hK : K + L ≤ 2097152) (h0 : 0 < lo0) (hle0 : lo0 ≤ hi0) : fnOk ⟨TT, specsOf [RFI_s, RFloor_s, RSub_s, RSign_s, RCmp_s, IFromInt_s, IAdd_s, RInv_s, fromc_s]⟩ Tryz.f48 [rAv lo0 K, rAv hi0 L] (qAv (sim lo0 hi0) (K + L)) := by
  have hl1 := cfq_len hz
  have hl2 := cfq_len hy
  have hz1 := hz.one
  have e11 : mkRat 1 1 = 1 := rfl
  (repeat ((conv => whnf); refine And.intro (by first | omega | exact ⟨by omega, trivial⟩ | exact ⟨by omega, by omega⟩ | rfl | exact And.intro rfl (by omega)) ?_)) <;> try (conv => whnf)
  refine ⟨⟨List Int × Rat × Rat, fun x => (0 < x.2.1 ∧ x.2.1 ≤ x.2.2 ∧ Sz x.2.1 (K + L) ∧ Sz x.2.2 (K + L)) ∧ (∀ T, Smp x.2.1 x.2.2 T → Smp lo0 hi0 (x.1 ++ T)) ∧ x.1.length + (cfq x.2.1).length ≤ 64 * (K + L) + 1 ∧ x.1.length + (cfq x.2.2).length ≤ 64 * (K + L) + 1, fun x => [.obj 2 (.cons (.rat x.2.1 (K + L)) .nil), .obj 3 (.cons (.rat x.2.2 (K + L)) .nil), .own 6 24 2 x.1.length (zl x.1 (K + L + 3)), .slot 6 (.row 6)], fun x => (cfq x.2.1).length + (cfq x.2.2).length, 0⟩, ([], lo0, hi0), ⟨⟨h0, hle0, hz.mono (by omega), hy.mono (by omega)⟩, fun T hT => hT, by simp only [List.length_nil]; omega, by simp only [List.length_nil]; omega⟩, ?_⟩
  conv => whnf
  refine And.intro ?_ ?_
  · all_goals (repeat' first | exact True.intro | exact rfl | apply And.intro | assumption | omega | (exact Or.inr (by assumption)) | (refine congrArg (Value.int IntKind.i64) ?_; omega))
  conv => whnf
  rintro ⟨l, lo, hi⟩ ⟨⟨hp, hle, s1, s2⟩, hT, b1, b2⟩
  have c1 := b1
  simp only at hp hle s1 s2 hT b1 b2
  have hmk : mkRat lo.floor 1 = (lo.floor : Rat) := mkRat_one' _
  have hcl := List.length_pos_iff.2 (cfq_ne lo)
  have ho : (sgn (lo + -mkRat lo.floor 1).num == 0) = true ↔ lo + -(lo.floor : Rat) = 0 := by rw [sgz, Rat.num_eq_zero, hmk]
  have hcg : decide (0 ≤ cmpR (hi + -mkRat lo.floor 1) (mkRat 1 1)) = decide (1 ≤ hi + -(lo.floor : Rat)) := by rw [cmp_ge, hmk, e11]
  have eL : ∀ x : Int, l.length + 1 = (l ++ [x]).length := fun x => by simp
  (repeat ((conv => whnf); refine And.intro (by first | omega | exact ⟨by omega, trivial⟩ | exact ⟨by omega, by omega⟩ | rfl | exact And.intro rfl (by omega)) ?_)) <;> try (conv => whnf)
  refine And.intro (fun h1 => ?_) (fun h1 => ?_)
  · have hS := hT _ (.whole (ho.1 h1))
    have eS : fval (l ++ [lo.floor]) = sim lo0 hi0 := (sim_eq (hS.ok h0 hle0).best).symm
    have eL1 := eL lo.floor
    (repeat ((conv => whnf); refine And.intro (by first | omega | exact ⟨by omega, trivial⟩ | exact ⟨by omega, by omega⟩ | rfl | exact And.intro rfl (by omega)) ?_)) <;> try (conv => whnf)
    refine ⟨((l ++ [lo.floor], K + L + 3), K + L), ⟨simp_fc hz h0 hle0 hK hS (by rw [← eL1]; omega), ?_⟩, ?_⟩
    · all_goals (repeat' first | exact True.intro | exact rfl | apply And.intro | assumption | omega | (exact Or.inr (by assumption)) | (refine congrArg (Value.int IntKind.i64) ?_; omega))
      exact zl_app (Or.inl (show K + L ≤ K + L + 3 by omega))
    (repeat ((conv => whnf); refine And.intro (by first | omega | exact ⟨by omega, trivial⟩ | exact ⟨by omega, by omega⟩ | rfl | exact And.intro rfl (by omega)) ?_)) <;> try (conv => whnf)
    all_goals (repeat' first | exact True.intro | exact rfl | apply And.intro | assumption | omega | (exact Or.inr (by assumption)) | (refine congrArg (Value.int IntKind.i64) ?_; omega))
  have hne : lo + -(lo.floor : Rat) ≠ 0 := fun e => absurd (h1.symm.trans (ho.2 e)) Bool.false_ne_true
  (repeat ((conv => whnf); refine And.intro (by first | omega | exact ⟨by omega, trivial⟩ | exact ⟨by omega, by omega⟩ | rfl | exact And.intro rfl (by omega)) ?_)) <;> try (conv => whnf)
  refine And.intro (fun h2 => ?_) (fun h2 => ?_)
  · have h2' : 1 ≤ hi + -(lo.floor : Rat) := of_decide_eq_true (hcg.symm.trans h2)
    have hS := hT _ (.up hne h2')
    have eS : fval (l ++ [lo.floor + 1]) = sim lo0 hi0 := (sim_eq (hS.ok h0 hle0).best).symm
    have eL1 := eL (lo.floor + 1)
    (repeat ((conv => whnf); refine And.intro (by first | omega | exact ⟨by omega, trivial⟩ | exact ⟨by omega, by omega⟩ | rfl | exact And.intro rfl (by omega)) ?_)) <;> try (conv => whnf)
    refine ⟨((l ++ [lo.floor + 1], K + L + 3), K + L), ⟨simp_fc hz h0 hle0 hK hS (by rw [← eL1]; omega), ?_⟩, ?_⟩
    · all_goals (repeat' first | exact True.intro | exact rfl | apply And.intro | assumption | omega | (exact Or.inr (by assumption)) | (refine congrArg (Value.int IntKind.i64) ?_; omega))
      exact zl_app (Or.inl (show K + L + 2 + 1 ≤ K + L + 3 by omega))
    (repeat ((conv => whnf); refine And.intro (by first | omega | exact ⟨by omega, trivial⟩ | exact ⟨by omega, by omega⟩ | rfl | exact And.intro rfl (by omega)) ?_)) <;> try (conv => whnf)
    all_goals (repeat' first | exact True.intro | exact rfl | apply And.intro | assumption | omega | (exact Or.inr (by assumption)) | (refine congrArg (Value.int IntKind.i64) ?_; omega))
  have h2' : hi + -(lo.floor : Rat) < 1 := Rat.not_le.1 (of_decide_eq_false (hcg.symm.trans h2))
  obtain ⟨a1, a2, a3, a4⟩ := smp_next hp hle hne h2'
  have hfs := floor_same hle h2'
  have n1 : hi + -mkRat lo.floor 1 ≠ 0 := by rw [hmk]; intro e; rw [e, Rat.inv_zero] at a1; exact absurd a1 (by decide)
  have n2 : lo + -mkRat lo.floor 1 ≠ 0 := by rw [hmk]; exact hne
  have t1 : Sz (lo + -mkRat lo.floor 1)⁻¹ (K + L) := by rw [hmk]; exact sz_inv1 (frac_sz s1)
  have t2 : Sz (hi + -mkRat lo.floor 1)⁻¹ (K + L) := by rw [hmk, ← hfs]; exact sz_inv1 (frac_sz s2)
  have eL1 := eL lo.floor
  (repeat ((conv => whnf); refine And.intro (by first | omega | exact ⟨by omega, trivial⟩ | exact ⟨by omega, by omega⟩ | rfl | exact And.intro rfl (by omega)) ?_)) <;> try (conv => whnf)
  refine ⟨true, ⟨by omega, by simp [n1]⟩, ?_⟩
  (repeat ((conv => whnf); refine And.intro (by first | omega | exact ⟨by omega, trivial⟩ | exact ⟨by omega, by omega⟩ | rfl | exact And.intro rfl (by omega)) ?_)) <;> try (conv => whnf)
  refine ⟨true, ⟨by omega, by simp [n2]⟩, ?_⟩
  (repeat ((conv => whnf); refine And.intro (by first | omega | exact ⟨by omega, trivial⟩ | exact ⟨by omega, by omega⟩ | rfl | exact And.intro rfl (by omega)) ?_)) <;> try (conv => whnf)
  refine ⟨(l ++ [lo.floor], (hi + -mkRat lo.floor 1)⁻¹, (lo + -mkRat lo.floor 1)⁻¹), ⟨⟨by rw [hmk]; exact a1, by simp only [hmk]; exact a2, t2, t1⟩, fun T hT' => ?_, ?_, ?_⟩, ?_, ?_⟩
  · simp only [hmk] at hT'
    have := hT _ (.step hne h2' hT')
    simpa using this
  · simp only [hmk]; rw [← eL1]; omega
  · simp only [hmk]; rw [← eL1]; omega
  · simp only [hmk]; omega
  conv => whnf
  all_goals (repeat' first | exact True.intro | exact rfl | apply And.intro | assumption | omega | (exact Or.inr (by assumption)) | (refine congrArg (Value.int IntKind.i64) ?_; omega))
  exact zl_app (Or.inl (show K + L ≤ K + L + 3 by omega))
end Go.Proofs.YtnjannpoemdbaaaGreat
