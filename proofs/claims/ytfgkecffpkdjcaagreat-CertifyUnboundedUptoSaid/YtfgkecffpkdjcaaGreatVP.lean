/- Package approx by the executor. -/
import Derived.Test.YtfgkecffpkdjcaaGreatVQ
import Derived.Test.YtfgkecffpkdjcaaGreatMA
namespace Go.Proofs.YtfgkecffpkdjcaaGreat
open Go.RowKit Gm Go.Vx

theorem spZZg_of {P : Program} {f : FuncId} {G : Type} {p : Int → Nat → Int → Nat → G → Prop} {r : Int → Nat → Int → Nat → G → Av} (h : ∀ own w x y m K n L g, (∀ b, own b → b < w.heap.size) → Rob own w (nAv m K) [x] → Rob own w (nAv n L) [y] → p m K n L g → CallOk own P f [x, y] w (r m K n L g)) : SpecOk P f (spZZg p r) := by
  intro own w vs xs hown ha
  cases ha with
  | nil => trivial
  | @cons v x _ _ hx ht =>
    cases ht with
    | nil => cases v <;> trivial
    | @cons v' y _ _ hy ht =>
      cases ht with
      | cons _ _ => cases v <;> cases v' <;> trivial
      | nil =>
        cases v with
        | agg a =>
          cases v' with
          | agg a' =>
            cases hr : Go.Vx.asInt a with
            | none => simp only [spZZg, hr]
            | some q =>
              obtain ⟨m, K⟩ := q
              cases hs : Go.Vx.asInt a' with
              | none => simp only [spZZg, hr, hs]
              | some q' =>
                obtain ⟨n, L⟩ := q'
                simp only [spZZg, hr, hs]
                intro g hp
                exact h own w x y m K n L g hown (rob_z hx hr) (rob_z hy hs) hp.2
          | _ => trivial
        | _ => trivial
def spQZg {G : Type} (p : Rat → Nat → Int → Nat → G → Prop) (r : Rat → Nat → Int → Nat → G → Av) : Go.Vx.Spec
  | [.agg a, .agg b] => match asRat a with
    | some (m, K) => match Go.Vx.asInt b with
      | some (n, L) => .gh G (fun g => K + L ≤ 4294967296 ∧ p m K n L g) (r m K n L)
      | none => .no
    | none => .no
  | _ => .no
theorem spQZg_fn {P : Program} {C : Ctx} {f : FuncId} {fn : Func} (hC : CtxOk P C) (hm : P.follows .mixedOrders = true) (hf : P.funcs[f]? = some fn) {G : Type} {p : Rat → Nat → Int → Nat → G → Prop} {r : Rat → Nat → Int → Nat → G → Av} (h : ∀ m K n L g, Sz m K → SzI n L → p m K n L g → fnOk C fn [rAv m K, nAv n L] (r m K n L g)) : SpecOk P f (spQZg p r) := by
  intro own w vs xs hown ha
  cases ha with
  | nil => trivial
  | @cons v x _ _ hx ht =>
    cases ht with
    | nil => cases v <;> trivial
    | @cons v' y _ _ hy ht =>
      cases ht with
      | cons _ _ => cases v <;> cases v' <;> trivial
      | nil =>
        cases v with
        | agg a =>
          cases v' with
          | agg a' =>
            cases hr : asRat a with
            | none => simp only [spQZg, hr]
            | some q =>
              obtain ⟨m, K⟩ := q
              cases hs : Go.Vx.asInt a' with
              | none => simp only [spQZg, hr, hs]
              | some q' =>
                obtain ⟨n, L⟩ := q'
                simp only [spQZg, hr, hs]
                intro g hp
                exact fn_ok hC hm hf (h m K n L g (by obtain ⟨_, _, _, _, hi⟩ := arg_q hx hr; exact hi.sz) (by obtain ⟨_, _, _, hi⟩ := arg_z hy hs; exact hi.sz) hp.2) hown (.cons (rob_q hx hr) (.cons (rob_z hy hs) .nil))
          | _ => trivial
        | _ => trivial
def zl (l : List Int) (K i : Nat) : Av := .cons (.intC (l.getD i 0) K) .nil
def zlAv (l : List Int) (K : Nat) : Av := .list 2 l.length (zl l K)
theorem zl_app {l : List Int} {x : Int} {K K' : Nat} (h : K' ≤ K ∨ SzI x K) : ∀ i, i < (l ++ [x]).length → fitC (zl (l ++ [x]) K i) (if i < l.length then zl l K i else nthp .nil [.cons (.intC x K') .nil] (i - l.length)) := by
  intro i hi
  rw [List.length_append, List.length_singleton] at hi
  by_cases h1 : i < l.length
  · rw [if_pos h1]
    have e : (l ++ [x]).getD i 0 = l.getD i 0 := by
      rw [List.getD_eq_getElem?_getD, List.getD_eq_getElem?_getD, List.getElem?_append_left h1]
    exact And.intro (And.intro e.symm (.inl (Nat.le_refl K))) True.intro
  · have h2 : i - l.length = 0 := by omega
    have h3 : i = l.length := by omega
    rw [if_neg h1, h2]
    have e : (l ++ [x]).getD i 0 = x := by
      rw [List.getD_eq_getElem?_getD, h3, List.getElem?_concat_length]; rfl
    exact And.intro (And.intro e.symm h) True.intro
theorem zl_refl (l : List Int) {K L : Nat} (h : K ≤ L) : ∀ i, i < l.length → fitC (zl l L i) (zl l K i) := fun _ _ => And.intro (And.intro rfl (.inl h)) True.intro
theorem cfq_len {q : Rat} {K : Nat} (h : Sz q K) : (cfq q).length ≤ 64 * K + 1 := by
  have h1 : q.den < 2 ^ (32 * K) := by
    have h2 := val_lt (Lb_limbs q.den)
    rw [val_limbs] at h2
    have h3 : Ba ^ (limbs q.den).length ≤ Ba ^ K := Nat.pow_le_pow_right Ba_pos h.2
    have e : Ba ^ K = 2 ^ (32 * K) := by rw [show Ba = 2 ^ 32 by decide, ← Nat.pow_mul]
    omega
  have := cf_len (32 * K) q.den q.num h1
  unfold cfq
  omega
theorem sgn_nz (n : Int) : (sgn n != 0) = true ↔ n ≠ 0 := by
  rw [bne_iff_ne]; exact not_congr (sgz' n)
theorem new_eq (s s' : Bool) (a b : Nat) : mkRat (sg (s != s') a) b = Rat.divInt (sg s a) (sg s' b) := by
  cases s <;> cases s' <;> simp only [sg, bne_self_eq_false, Bool.false_eq_true, if_false, if_true]
  · rw [Rat.divInt_ofNat]
  · show mkRat (-(a : Int)) b = _; rw [Rat.divInt_neg', Rat.divInt_ofNat]
  · show mkRat (-(a : Int)) b = _; rw [Rat.divInt_ofNat]
  · rw [Rat.neg_divInt_neg, Rat.divInt_ofNat]
theorem cv_step {l : List Int} {j : Nat} (h : j < l.length) : cv (l.drop j) = (l.getD j 0 * (cv (l.drop (j + 1))).1 + (cv (l.drop (j + 1))).2, (cv (l.drop (j + 1))).1) := by
  rw [List.drop_eq_getElem_cons h, List.getD_eq_getElem?_getD, List.getElem?_eq_getElem h]; rfl
structure FcOk (l : List Int) (K M : Nat) : Prop where
  ok : fok l
  len : l.length ≤ 1073741824
  K : K + M ≤ 268435456
  one : 1 ≤ M
  sz : ∀ j, SzI (cv (l.drop j)).1 M
theorem FcOk.den {l : List Int} {K M : Nat} (h : FcOk l K M) (j : Nat) (hj : j < l.length) : SzI (cv (l.drop j)).2 M := by
  rw [cv_step hj]; exact h.sz (j + 1)
theorem szi_one {M : Nat} (h : 1 ≤ M) : SzI 1 M := by
  have h1 : (limbs 1).length = 1 := limbs1_len
  show (limbs 1).length ≤ M
  omega
def frAv (p s : Int) (K : Nat) : Av := .agg (.cons (.intC p K) (.cons (.intC s K) .nil))
def spPlus : Go.Vx.Spec
  | [.agg (.cons (.intC p K) (.cons (.intC s K') .nil)), .agg b, .agg (.cons (.intC p' L) (.cons (.intC s' L') .nil))] => match Go.Vx.asInt b with
    | some (t, J) => .gh Nat (fun g => K + K' + L + L' + J ≤ 268435456 ∧ SzI (p + t * p') g ∧ SzI (s + t * s') g) (fun g => frAv (p + t * p') (s + t * s') g)
    | none => .no
  | _ => .no
def spValue : Go.Vx.Spec
  | [.agg (.cons (.intC p K) (.cons (.intC s L) .nil))] => .res (some (K + L ≤ 1073741824 ∧ s ≠ 0)) (qAv (Rat.divInt p s) (max (max K L) 1))
  | _ => .no
theorem cmpZ_lt {m n : Int} : cmpI m n < 0 ↔ m < n := by unfold cmpI; split <;> (try split) <;> omega
theorem cmpZ_le {m n : Int} : cmpI m n ≤ 0 ↔ m ≤ n := by unfold cmpI; split <;> (try split) <;> omega
theorem szi_le {n : Int} {m K : Nat} (h : n.natAbs ≤ m) (hm : (limbs m).length ≤ K) : SzI n K := Nat.le_trans (limbs_mono h) hm
theorem take_snoc {l : List Int} {i : Nat} (h : i < l.length) : l.take (i + 1) = l.take i ++ [l[i]] := List.take_succ_eq_append_getElem h
theorem cw_take {l : List Int} {i : Nat} (h : i < l.length) : cw (l.take (i + 1)) = cv (l.take i) := by rw [take_snoc h, cw_snoc]
theorem cv_take {l : List Int} {i : Nat} (h : i < l.length) : cv (l.take (i + 1)) = ((cw (l.take i)).1 + l[i] * (cv (l.take i)).1, (cw (l.take i)).2 + l[i] * (cv (l.take i)).2) := by rw [take_snoc h, cv_snoc]
theorem fr_sz {q : Rat} {K : Nat} (hz : Sz q K) {i : Nat} (hi : i ≤ (cfq q).length) : SzI (cv ((cfq q).take i)).1 (K + 1) ∧ SzI (cv ((cfq q).take i)).2 (K + 1) := by
  have h1 := hz.one
  have l1 : (limbs 1).length = 1 := limbs1_len
  rcases Nat.eq_zero_or_pos i with rfl | hp
  · rw [List.take_zero]
    exact ⟨szi_one (by omega), by show (limbs 0).length ≤ _; rw [limbs_zero]; simp⟩
  · have h := Gm.part q hp hi
    have hs := h.s_le
    have hs1 := h.s1
    refine ⟨szi_le h.p_le (limbs_add_le hz.1 (by omega)), szi_le (m := q.den) (by omega) (Nat.le_trans hz.2 (Nat.le_succ K))⟩
noncomputable def nbAv (q : Rat) (M : Int) (K : Nat) : Bool → Av
  | true => .tup (.cons (qAv (bel q M) (K + 1)) (.cons (qAv (abv q M) (K + 1)) (.cons (.kb true) .nil)))
  | false => .tup (.cons (.agg (.cons (.kb false) (.cons (.val (.slice none 0 0)) (.cons (.val (.slice none 0 0)) .nil)))) (.cons (.agg (.cons (.kb false) (.cons (.val (.slice none 0 0)) (.cons (.val (.slice none 0 0)) .nil)))) (.cons (.kb false) .nil)))
set_option smartUnfolding false in
set_option maxRecDepth 100000 in
theorem cont_x (q : Rat) (K : Nat) (hz : Sz q K) (hK : K ≤ 2097152) : fnOk ⟨TT, specsOf [RNorm_s, ISign_s, IDivMod_s]⟩ Tryz.f124 [rAv q K] (zlAv (cfq q) K) := by
  have hlen := cfq_len hz
  (repeat ((conv=>whnf);refine And.intro (by first|omega | exact ⟨by omega, trivial⟩ | exact ⟨by omega, by omega⟩ | rfl | exact And.intro rfl (by omega)) ?_))<;>try (conv=>whnf)
  refine ⟨⟨List Int × Int × Nat, fun x => x.1 ++ cf x.2.1 x.2.2 = cfq q ∧ SzI x.2.1 K ∧ SzI (x.2.2 : Int) K, fun x => [.obj 3 (.cons (.intC x.2.1 K) .nil), .obj 4 (.cons (.intC (x.2.2 : Int) K) .nil), .own 5 34 2 x.1.length (zl x.1 K), .slot 5 (.row 5)], fun x => x.2.2, 0⟩, ([], q.num, q.den), ⟨rfl, hz.num, hz.den⟩, ?_⟩
  conv => whnf
  refine And.intro ?_ ?_
  · all_goals (repeat' first|exact True.intro|exact rfl|apply And.intro|assumption|omega|(exact Or.inr (by assumption))|(refine congrArg (Value.int .i64) ?_;omega))
  conv => whnf
  rintro ⟨l, n, d⟩ ⟨hl, h1, h2⟩
  (repeat ((conv=>whnf);refine And.intro (by first|omega | exact ⟨by omega, trivial⟩ | exact ⟨by omega, by omega⟩ | rfl | exact And.intro rfl (by omega)) ?_))<;>try (conv=>whnf)
  refine And.intro (fun h3 => ?_) (fun h3 => ?_)
  · have hd : (d : Int) ≠ 0 := (sgn_nz _).1 h3
    have hd0 : d ≠ 0 := by omega
    have hm0 := Int.emod_nonneg n hd
    have hm1 := Int.emod_lt_of_pos n (show (0 : Int) < d by omega)
    have e := cf_pos n hd0
    have eL : l.length + 1 = (l ++ [n / (d : Int)]).length := by simp
    have eN : n % (d : Int) = ((n % (d : Int)).toNat : Int) := (Int.toNat_of_nonneg hm0).symm
    have hll := congrArg List.length hl
    rw [List.length_append] at hll
    have hc : (cf n d).length = (cf d (n % (d : Int)).toNat).length + 1 := by rw [e]; rfl
    (repeat ((conv=>whnf);refine And.intro (by first|omega | exact ⟨by omega, trivial⟩ | exact ⟨by omega, by omega⟩ | rfl | exact And.intro rfl (by omega)) ?_))<;>try (conv=>whnf)
    refine ⟨(l ++ [n / (d : Int)], (d : Int), (n % (d : Int)).toNat), ⟨by rw [← hl]; simp only [List.append_assoc]; rw [e]; rfl, h2, by simp only; rw [Int.toNat_of_nonneg hm0]; exact szi_mod h2 hd⟩, by simp only; omega, ?_⟩
    conv => whnf
    all_goals (repeat' first|exact True.intro|exact rfl|apply And.intro|assumption|omega|(exact Or.inr (by assumption))|(refine congrArg (Value.int .i64) ?_;omega))
    exact zl_app (.inl (Nat.le_refl K))
  · have hd0 : d = 0 := by
      have : ¬ ((d : Int) ≠ 0) := fun h => by rw [(sgn_nz _).2 h] at h3; cases h3
      omega
    subst hd0
    have e : l = cfq q := by rw [← hl]; simp only [cf_zero, List.append_nil]
    subst e
    (repeat ((conv=>whnf);refine And.intro (by first|omega | exact ⟨by omega, trivial⟩ | exact ⟨by omega, by omega⟩ | rfl | exact And.intro rfl (by omega)) ?_))<;>try (conv=>whnf)
    all_goals (repeat' first|exact True.intro|exact rfl|apply And.intro|assumption|omega|(exact Or.inr (by assumption))|(refine congrArg (Value.int .i64) ?_;omega))
    exact zl_refl _ (Nat.le_refl K)

set_option maxRecDepth 100000 in
noncomputable def cont_s : PSpec Tryz.prog := ⟨124, spQ (fun _ K => K ≤ 2097152) (fun q K => zlAv (cfq q) K), spQ_fn (fn := Tryz.f124) (ctx_ok TT_ok [RNorm_s, ISign_s, IDivMod_s]) mixed_ok (by kernel_rfl) (fun q K hz _ hK => cont_x q K hz hK), by kernel_rfl⟩

set_option smartUnfolding false in
set_option maxRecDepth 100000 in
theorem RNew_x (s : Bool) (a K : Nat) (s' : Bool) (b L : Nat) (g : Bool) (hK : K + L ≤ 1073741824) (hg : g = true ↔ sg s' b ≠ 0) : fnOk ⟨TT, specsOf [ISign_s, RNorm_s]⟩ Tryz.f190 [iwAv s a K, iwAv s' b L] (optAv (Rat.divInt (sg s a) (sg s' b)) (max (max K L) 1) g) := by
  cases g with
  | false =>
    have h0 : sg s' b = 0 := Classical.byContradiction fun h => by have := hg.2 h; cases this
    have hs : (sgn (sg s' b) == 0) = true := (sgz _).2 h0
    (repeat ((conv=>whnf);refine And.intro (by first|omega | exact ⟨by omega, trivial⟩ | exact ⟨by omega, by omega⟩ | rfl | exact And.intro rfl (by omega)) ?_))<;>try (conv=>whnf)
    refine And.intro (fun h1=>?_) (fun h1=>?_)
    · (repeat ((conv=>whnf);refine And.intro (by first|omega | exact ⟨by omega, trivial⟩ | exact ⟨by omega, by omega⟩ | rfl | exact And.intro rfl (by omega)) ?_))<;>try (conv=>whnf)
      all_goals (repeat' first|exact True.intro|exact rfl|apply And.intro|assumption|omega|(exact Or.inr (by assumption))|(refine congrArg (Value.int .i64) ?_;omega))
    · exact absurd (hs.symm.trans h1) (by decide)
  | true =>
    have h0 : sg s' b ≠ 0 := hg.1 rfl
    (repeat ((conv=>whnf);refine And.intro (by first|omega | exact ⟨by omega, trivial⟩ | exact ⟨by omega, by omega⟩ | rfl | exact And.intro rfl (by omega)) ?_))<;>try (conv=>whnf)
    refine And.intro (fun h1=>?_) (fun h1=>?_)
    · exact absurd ((sgz _).1 h1) h0
    · (repeat ((conv=>whnf);refine And.intro (by first|omega | exact ⟨by omega, trivial⟩ | exact ⟨by omega, by omega⟩ | rfl | exact And.intro rfl (by omega)) ?_))<;>try (conv=>whnf)
      exact And.intro (And.intro (And.intro (new_eq s s' a b) (.inl (by omega))) True.intro) (And.intro rfl True.intro)

set_option maxRecDepth 100000 in
noncomputable def RNew_s : PSpec Tryz.prog := ⟨190, spZZg (fun _ K n L (g : Bool) => K + L ≤ 1073741824 ∧ (g = true ↔ n ≠ 0)) (fun m K n L g => optAv (Rat.divInt m n) (max (max K L) 1) g), spZZg_of fun own w x y m K n L g hown hx hy hp => by
    obtain ⟨s, a, rfl, hx2⟩ := rob_iw hx
    obtain ⟨s', b, rfl, hy2⟩ := rob_iw hy
    exact fn_ok (ctx_ok TT_ok [ISign_s, RNorm_s]) mixed_ok (fn := Tryz.f190) (by kernel_rfl) (RNew_x s a K s' b L g hp.1 hp.2) hown (.cons hx2 (.cons hy2 .nil)), by kernel_rfl⟩

set_option smartUnfolding false in
set_option maxRecDepth 100000 in
theorem plus_x (p : Int) (K : Nat) (s : Int) (K' : Nat) (t : Int) (J : Nat) (p' : Int) (L : Nat) (s' : Int) (L' g : Nat) (hK : K + K' + L + L' + J ≤ 268435456) (h1 : SzI (p + t * p') g) (h2 : SzI (s + t * s') g) : fnOk ⟨TT, specsOf [IMul_s, IAdd_s]⟩ Tryz.f192 [.agg (.cons (.intC p K) (.cons (.intC s K') .nil)), nAv t J, .agg (.cons (.intC p' L) (.cons (.intC s' L') .nil))] (frAv (p + t * p') (s + t * s') g) := by
  (repeat ((conv=>whnf);refine And.intro (by first|omega | exact ⟨by omega, trivial⟩ | exact ⟨by omega, by omega⟩ | rfl | exact And.intro rfl (by omega)) ?_))<;>try (conv=>whnf)
  exact And.intro (And.intro rfl (.inr h1)) (And.intro (And.intro rfl (.inr h2)) True.intro)

set_option smartUnfolding false in
set_option maxRecDepth 100000 in
theorem value_x (p : Int) (K : Nat) (s : Int) (L : Nat) (hK : K + L ≤ 1073741824) (hs : s ≠ 0) : fnOk ⟨TT, specsOf [RNew_s]⟩ Tryz.f193 [.agg (.cons (.intC p K) (.cons (.intC s L) .nil))] (qAv (Rat.divInt p s) (max (max K L) 1)) := by
  (repeat ((conv=>whnf);refine And.intro (by first|omega | exact ⟨by omega, trivial⟩ | exact ⟨by omega, by omega⟩ | rfl | exact And.intro rfl (by omega)) ?_))<;>try (conv=>whnf)
  refine ⟨true, ⟨by omega, by omega, by simp [hs]⟩, ?_⟩
  (repeat ((conv=>whnf);refine And.intro (by first|omega | exact ⟨by omega, trivial⟩ | exact ⟨by omega, by omega⟩ | rfl | exact And.intro rfl (by omega)) ?_))<;>try (conv=>whnf)
  all_goals (repeat' first|exact True.intro|exact rfl|apply And.intro|assumption|omega|(exact Or.inr (by assumption))|(refine congrArg (Value.int .i64) ?_;omega))

set_option maxRecDepth 100000 in
def plus_s : PSpec Tryz.prog := ⟨192, spPlus, (by
  intro own w vs xs hown ha
  generalize e : spPlus vs = z
  unfold spPlus at e
  split at e
  · rename_i p K s K' b p' L s' L'
    cases hr : Go.Vx.asInt b with
    | none => rw [hr] at e; subst e; trivial
    | some q =>
      obtain ⟨t, J⟩ := q
      rw [hr] at e
      subst e
      intro g hp
      cases ha with
      | cons h1 ht =>
        cases ht with
        | cons h2 ht =>
          exact fn_ok (ctx_ok TT_ok [IMul_s, IAdd_s]) mixed_ok (fn := Tryz.f192) (by kernel_rfl) (plus_x p K s K' t J p' L s' L' g hp.1 hp.2.1 hp.2.2) hown (.cons h1 (.cons (rob_z h2 hr) ht))
  · subst e; trivial), by kernel_rfl⟩
set_option maxRecDepth 100000 in
def value_s : PSpec Tryz.prog := ⟨193, spValue, (by
  intro own w vs xs hown ha
  generalize e : spValue vs = z
  unfold spValue at e
  split at e
  · subst e
    intro hp
    exact fn_ok (ctx_ok TT_ok [RNew_s]) mixed_ok (fn := Tryz.f193) (by kernel_rfl) (value_x _ _ _ _ hp.1 hp.2) hown ha
  · subst e; trivial), by kernel_rfl⟩

set_option smartUnfolding false in
set_option maxRecDepth 100000 in
theorem neigh_x (q : Rat) (K : Nat) (M : Int) (L : Nat) (g : Bool) (hz : Sz q K) (hK : K ≤ 2097152) (hL : L ≤ 2097152) (hg : g = true ↔ 1 ≤ M) : fnOk ⟨TT, specsOf [IFromInt_s, ICmp_s, RNorm_s, cont_s, ISub_s, IDivMod_s, plus_s, value_s]⟩ Tryz.f168 [rAv q K, nAv M L] (nbAv q M K g) := by
  cases g with
  | false =>
    have hM : ¬ 1 ≤ M := fun h => by have := hg.2 h; cases this
    (repeat ((conv=>whnf);refine And.intro (by first|omega | exact ⟨by omega, trivial⟩ | exact ⟨by omega, by omega⟩ | rfl | exact And.intro rfl (by omega)) ?_))<;>try (conv=>whnf)
    refine And.intro (fun h1=>?_) (fun h1=>?_)
    · (repeat ((conv=>whnf);refine And.intro (by first|omega | exact ⟨by omega, trivial⟩ | exact ⟨by omega, by omega⟩ | rfl | exact And.intro rfl (by omega)) ?_))<;>try (conv=>whnf)
      all_goals (repeat' first|exact True.intro|exact rfl|apply And.intro|assumption|omega|(exact Or.inr (by assumption))|(refine congrArg (Value.int .i64) ?_;omega))
    · exact absurd (cmpZ_lt.2 (show M < 1 by omega)) (of_decide_eq_false h1)
  | true =>
    have hM : 1 ≤ M := hg.1 rfl
    have hN := cfq_len hz
    have hN1 : 0 < (cfq q).length := List.length_pos_iff.2 (cfq_ne q)
    have hz1 := hz.one
    (repeat ((conv=>whnf);refine And.intro (by first|omega | exact ⟨by omega, trivial⟩ | exact ⟨by omega, by omega⟩ | rfl | exact And.intro rfl (by omega)) ?_))<;>try (conv=>whnf)
    refine And.intro (fun h1=>?_) (fun h1=>?_)
    · exact absurd (cmpZ_lt.1 (of_decide_eq_true h1)) (by omega)
    (repeat ((conv=>whnf);refine And.intro (by first|omega | exact ⟨by omega, trivial⟩ | exact ⟨by omega, by omega⟩ | rfl | exact And.intro rfl (by omega)) ?_))<;>try (conv=>whnf)
    refine And.intro (fun h2 => ?_) (fun h2 => ?_)
    · (repeat ((conv=>whnf);refine And.intro (by first|omega | exact ⟨by omega, trivial⟩ | exact ⟨by omega, by omega⟩ | rfl | exact And.intro rfl (by omega)) ?_))<;>try (conv=>whnf)
      have hd : (q.den : Int) ≤ M := cmpZ_le.1 (of_decide_eq_true h2)
      obtain ⟨b1, b2⟩ := below_self hd
      exact And.intro (And.intro (And.intro (bel_eq b1).symm (.inl (Nat.le_succ K))) True.intro) (And.intro (And.intro (And.intro (abv_eq b2).symm (.inl (Nat.le_succ K))) True.intro) (And.intro rfl True.intro))
    have hd : M < (q.den : Int) := by
      have := of_decide_eq_false h2
      rw [cmpZ_le] at this
      omega
    (repeat ((conv=>whnf);refine And.intro (by first|omega | exact ⟨by omega, trivial⟩ | exact ⟨by omega, by omega⟩ | rfl | exact And.intro rfl (by omega)) ?_))<;>try (conv=>whnf)
    refine ⟨⟨Nat, fun j => j + 1 ≤ (cfq q).length ∧ (cv ((cfq q).take (j + 1))).2 ≤ M ∧ (cw ((cfq q).take (j + 1))).2 ≤ M, fun j => [.slot 49 (.val (.int .i64 (j : Int))), .slot 12 (.val (.bool (decide ((j + 1) % 2 = 1)))), .obj 10 (.cons (.intC (cw ((cfq q).take (j + 1))).1 (K + 1)) (.cons (.intC (cw ((cfq q).take (j + 1))).2 (K + 1)) .nil)), .obj 11 (.cons (.intC (cv ((cfq q).take (j + 1))).1 (K + 1)) (.cons (.intC (cv ((cfq q).take (j + 1))).2 (K + 1)) .nil))], fun j => (cfq q).length - j, 0⟩, 0, ⟨by omega, ?_⟩, ?_⟩
    · rw [take_snoc (by omega), List.take_zero]; simp [cv, cw]; omega
    have hT1 : (cfq q).take (0 + 1) = [(cfq q).getD 0 0] := by
      rw [take_snoc hN1, List.take_zero, List.getD_eq_getElem?_getD, List.getElem?_eq_getElem hN1]; rfl
    have E1 : (1 : Int) = (cw ((cfq q).take (0 + 1))).1 := by rw [hT1]; simp [cw]
    have E2 : (0 : Int) = (cw ((cfq q).take (0 + 1))).2 := by rw [hT1]; simp [cw]
    have E3 : (cfq q).getD (0 : Int).toNat 0 = (cv ((cfq q).take (0 + 1))).1 := by rw [hT1]; simp [cv]
    have E4 : (1 : Int) = (cv ((cfq q).take (0 + 1))).2 := by rw [hT1]; simp [cv]
    conv => whnf
    refine And.intro ?_ ?_
    · all_goals (repeat' first|exact True.intro|exact rfl|apply And.intro|assumption|omega|(exact Or.inr (by assumption))|(refine congrArg (Value.int .i64) ?_;omega))
    conv => whnf
    rintro j ⟨hj, hf, hw⟩
    have P := Gm.part q (i := j + 1) (by omega) hj
    have hs1 := P.s1
    obtain ⟨z1, z2⟩ := fr_sz hz hj
    have w3 : IntKind.i64.wrap ((j : Int) + 1) = (j : Int) + 1 := w64 (by omega) (by omega)
    (repeat ((conv=>whnf);refine And.intro (by first|omega | exact ⟨by omega, trivial⟩ | exact ⟨by omega, by omega⟩ | rfl | exact And.intro rfl (by omega)) ?_))<;>try (conv=>whnf)
    refine And.intro (fun h3 => ?_) (fun h3 => ?_)
    · have hi : j + 1 < (cfq q).length := by have := of_decide_eq_true h3; omega
      have hTt : (cfq q).getD ((j : Int).toNat + (1 : Int).toNat) 0 = (cfq q)[j + 1] := by
        rw [show (j : Int).toNat + (1 : Int).toNat = j + 1 by omega, List.getD_eq_getElem?_getD, List.getElem?_eq_getElem hi]; rfl
      have P2 := Gm.part q (i := j + 2) (by omega) (by omega)
      have hct := cv_take hi
      have hcw := cw_take hi
      obtain ⟨y1, y2⟩ := fr_sz hz (i := j + 2) (by omega)
      (repeat ((conv=>whnf);refine And.intro (by first|omega | exact ⟨by omega, trivial⟩ | exact ⟨by omega, by omega⟩ | rfl | exact And.intro rfl (by omega)) ?_))<;>try (conv=>whnf)
      refine And.intro (fun h4 => ?_) (fun h4 => ?_)
      · have hlt : (M - (cw ((cfq q).take (j + 1))).2) / (cv ((cfq q).take (j + 1))).2 < (cfq q)[j + 1] := by
          rw [← hTt]; exact cmpZ_lt.1 (of_decide_eq_true h4)
        obtain ⟨⟨n0, n1, n2, n3⟩, n4, n5⟩ := nbr_ok q (i := j + 1) (by omega) hi hf rfl hw hlt
        have l1 : (limbs 1).length = 1 := limbs1_len
        have x1 := szi_le n3 (limbs_add_le hz.1 (show (limbs 1).length ≤ K by omega))
        have x2 : SzI ((cw ((cfq q).take (j + 1))).2 + (M - (cw ((cfq q).take (j + 1))).2) / (cv ((cfq q).take (j + 1))).2 * (cv ((cfq q).take (j + 1))).2) (K + 1) := szi_le (m := q.den) (by omega) (Nat.le_trans hz.2 (Nat.le_succ K))
        (repeat ((conv=>whnf);refine And.intro (by first|omega | exact ⟨by omega, trivial⟩ | exact ⟨by omega, by omega⟩ | rfl | exact And.intro rfl (by omega)) ?_))<;>try (conv=>whnf)
        refine ⟨K + 1, ⟨by omega, x1, x2⟩, ?_⟩
        (repeat ((conv=>whnf);refine And.intro (by first|omega | exact ⟨by omega, trivial⟩ | exact ⟨by omega, by omega⟩ | rfl | exact And.intro rfl (by omega)) ?_))<;>try (conv=>whnf)
        refine And.intro (fun h5 => ?_) (fun h5 => ?_)
        · have h6 : (j + 1) % 2 = 1 := of_decide_eq_true h5
          obtain ⟨m1, m2⟩ := n4 h6
          have b1 : Rat.divInt (cv ((cfq q).take (j + 1))).1 (cv ((cfq q).take (j + 1))).2 = bel q M := (bel_eq m1).symm
          have b2 : Rat.divInt ((cw ((cfq q).take (j + 1))).1 + (M - (cw ((cfq q).take (j + 1))).2) / (cv ((cfq q).take (j + 1))).2 * (cv ((cfq q).take (j + 1))).1) ((cw ((cfq q).take (j + 1))).2 + (M - (cw ((cfq q).take (j + 1))).2) / (cv ((cfq q).take (j + 1))).2 * (cv ((cfq q).take (j + 1))).2) = abv q M := (abv_eq m2).symm
          (repeat ((conv=>whnf);refine And.intro (by first|omega | exact ⟨by omega, trivial⟩ | exact ⟨by omega, by omega⟩ | rfl | exact And.intro rfl (by omega)) ?_))<;>try (conv=>whnf)
          all_goals (repeat' first|exact True.intro|exact rfl|apply And.intro|assumption|omega|(exact Or.inr (by assumption))|(refine congrArg (Value.int .i64) ?_;omega))
        · have h6 : (j + 1) % 2 = 0 := by have := of_decide_eq_false h5; omega
          obtain ⟨m1, m2⟩ := n5 h6
          have b1 : Rat.divInt ((cw ((cfq q).take (j + 1))).1 + (M - (cw ((cfq q).take (j + 1))).2) / (cv ((cfq q).take (j + 1))).2 * (cv ((cfq q).take (j + 1))).1) ((cw ((cfq q).take (j + 1))).2 + (M - (cw ((cfq q).take (j + 1))).2) / (cv ((cfq q).take (j + 1))).2 * (cv ((cfq q).take (j + 1))).2) = bel q M := (bel_eq m1).symm
          have b2 : Rat.divInt (cv ((cfq q).take (j + 1))).1 (cv ((cfq q).take (j + 1))).2 = abv q M := (abv_eq m2).symm
          (repeat ((conv=>whnf);refine And.intro (by first|omega | exact ⟨by omega, trivial⟩ | exact ⟨by omega, by omega⟩ | rfl | exact And.intro rfl (by omega)) ?_))<;>try (conv=>whnf)
          all_goals (repeat' first|exact True.intro|exact rfl|apply And.intro|assumption|omega|(exact Or.inr (by assumption))|(refine congrArg (Value.int .i64) ?_;omega))
      · have hge : (cfq q)[j + 1] ≤ (M - (cw ((cfq q).take (j + 1))).2) / (cv ((cfq q).take (j + 1))).2 := by
          rw [← hTt]
          have := of_decide_eq_false h4
          rw [cmpZ_lt] at this
          omega
        have E5 : (cw ((cfq q).take (j + 1))).1 + (cfq q).getD ((j : Int).toNat + (1 : Int).toNat) 0 * (cv ((cfq q).take (j + 1))).1 = (cv ((cfq q).take (j + 1 + 1))).1 := by rw [hTt, hct]
        have E6 : (cw ((cfq q).take (j + 1))).2 + (cfq q).getD ((j : Int).toNat + (1 : Int).toNat) 0 * (cv ((cfq q).take (j + 1))).2 = (cv ((cfq q).take (j + 1 + 1))).2 := by rw [hTt, hct]
        have y1' : SzI ((cw ((cfq q).take (j + 1))).1 + (cfq q).getD ((j : Int).toNat + (1 : Int).toNat) 0 * (cv ((cfq q).take (j + 1))).1) (K + 1) := by rw [E5]; exact y1
        have y2' : SzI ((cw ((cfq q).take (j + 1))).2 + (cfq q).getD ((j : Int).toNat + (1 : Int).toNat) 0 * (cv ((cfq q).take (j + 1))).2) (K + 1) := by rw [E6]; exact y2
        have E7 : Value.bool (!decide ((j + 1) % 2 = 1)) = Value.bool (decide ((j + 1 + 1) % 2 = 1)) := by
          congr 1
          by_cases h6 : (j + 1) % 2 = 1
          · rw [decide_eq_true h6, decide_eq_false (by omega)]; rfl
          · rw [decide_eq_false h6, decide_eq_true (by omega)]; rfl
        have E8 : (cv ((cfq q).take (j + 1))).1 = (cw ((cfq q).take (j + 1 + 1))).1 := by rw [hcw]
        have E9 : (cv ((cfq q).take (j + 1))).2 = (cw ((cfq q).take (j + 1 + 1))).2 := by rw [hcw]
        have hm : (M - (cw ((cfq q).take (j + 1))).2) / (cv ((cfq q).take (j + 1))).2 * (cv ((cfq q).take (j + 1))).2 ≤ M - (cw ((cfq q).take (j + 1))).2 := Int.ediv_mul_le _ (by omega)
        have hm2 := Int.mul_le_mul_of_nonneg_right hge (show 0 ≤ (cv ((cfq q).take (j + 1))).2 by omega)
        have hfM : (cv ((cfq q).take (j + 1 + 1))).2 ≤ M := by rw [hct]; simp only; omega
        have hwM : (cw ((cfq q).take (j + 1 + 1))).2 ≤ M := by rw [← E9]; exact hf
        (repeat ((conv=>whnf);refine And.intro (by first|omega | exact ⟨by omega, trivial⟩ | exact ⟨by omega, by omega⟩ | rfl | exact And.intro rfl (by omega)) ?_))<;>try (conv=>whnf)
        refine ⟨K + 1, ⟨by omega, y1', y2'⟩, ?_⟩
        (repeat ((conv=>whnf);refine And.intro (by first|omega | exact ⟨by omega, trivial⟩ | exact ⟨by omega, by omega⟩ | rfl | exact And.intro rfl (by omega)) ?_))<;>try (conv=>whnf)
        refine ⟨j + 1, ⟨by omega, hfM, hwM⟩, (show (cfq q).length - (j + 1) < (cfq q).length - j by omega), ?_⟩
        conv => whnf
        all_goals (repeat' first|exact True.intro|exact rfl|apply And.intro|assumption|omega|(exact Or.inr (by assumption))|(refine congrArg (Value.int .i64) ?_;omega))
    · exfalso
      have hjN : j + 1 = (cfq q).length := by have := of_decide_eq_false h3; omega
      rw [hjN, List.take_length, cv_cfq] at hf
      simp only at hf
      omega

set_option maxRecDepth 100000 in
noncomputable def neigh_s : PSpec Tryz.prog := ⟨168, spQZg (fun _ K n L (g : Bool) => K ≤ 2097152 ∧ L ≤ 2097152 ∧ (g = true ↔ 1 ≤ n)) (fun m K n _ g => nbAv m n K g), spQZg_fn (fn := Tryz.f168) (ctx_ok TT_ok [IFromInt_s, ICmp_s, RNorm_s, cont_s, ISub_s, IDivMod_s, plus_s, value_s]) mixed_ok (by kernel_rfl) (fun m K n L g hz _ hp => neigh_x m K n L g hz hp.1 hp.2.1 hp.2.2), by kernel_rfl⟩

set_option smartUnfolding false in
set_option maxRecDepth 100000 in
theorem below_x (q : Rat) (K : Nat) (M : Int) (L : Nat) (g : Bool) (hK : K ≤ 2097152) (hL : L ≤ 2097152) (hg : g = true ↔ 1 ≤ M) : fnOk ⟨TT, specsOf [neigh_s]⟩ Tryz.f125 [rAv q K, nAv M L] (optAv (bel q M) (K + 1) g) := by
  cases g with
  | false =>
    (repeat ((conv=>whnf);refine And.intro (by first|omega | exact ⟨by omega, trivial⟩ | exact ⟨by omega, by omega⟩ | rfl | exact And.intro rfl (by omega)) ?_))<;>try (conv=>whnf)
    refine ⟨false, ⟨by omega, hK, hL, hg⟩, ?_⟩
    (repeat ((conv=>whnf);refine And.intro (by first|omega | exact ⟨by omega, trivial⟩ | exact ⟨by omega, by omega⟩ | rfl | exact And.intro rfl (by omega)) ?_))<;>try (conv=>whnf)
    all_goals (repeat' first|exact True.intro|exact rfl|apply And.intro|assumption|omega|(exact Or.inr (by assumption))|(refine congrArg (Value.int .i64) ?_;omega))
  | true =>
    (repeat ((conv=>whnf);refine And.intro (by first|omega | exact ⟨by omega, trivial⟩ | exact ⟨by omega, by omega⟩ | rfl | exact And.intro rfl (by omega)) ?_))<;>try (conv=>whnf)
    refine ⟨true, ⟨by omega, hK, hL, hg⟩, ?_⟩
    (repeat ((conv=>whnf);refine And.intro (by first|omega | exact ⟨by omega, trivial⟩ | exact ⟨by omega, by omega⟩ | rfl | exact And.intro rfl (by omega)) ?_))<;>try (conv=>whnf)
    all_goals (repeat' first|exact True.intro|exact rfl|apply And.intro|assumption|omega|(exact Or.inr (by assumption))|(refine congrArg (Value.int .i64) ?_;omega))

set_option maxRecDepth 100000 in
noncomputable def below_s : PSpec Tryz.prog := ⟨125, spQZg (fun _ K n L (g : Bool) => K ≤ 2097152 ∧ L ≤ 2097152 ∧ (g = true ↔ 1 ≤ n)) (fun m K n _ g => optAv (bel m n) (K + 1) g), spQZg_fn (fn := Tryz.f125) (ctx_ok TT_ok [neigh_s]) mixed_ok (by kernel_rfl) (fun m K n L g _ _ hp => below_x m K n L g hp.1 hp.2.1 hp.2.2), by kernel_rfl⟩

set_option smartUnfolding false in
set_option maxRecDepth 100000 in
theorem above_x (q : Rat) (K : Nat) (M : Int) (L : Nat) (g : Bool) (hK : K ≤ 2097152) (hL : L ≤ 2097152) (hg : g = true ↔ 1 ≤ M) : fnOk ⟨TT, specsOf [neigh_s]⟩ Tryz.f126 [rAv q K, nAv M L] (optAv (abv q M) (K + 1) g) := by
  cases g with
  | false =>
    (repeat ((conv=>whnf);refine And.intro (by first|omega | exact ⟨by omega, trivial⟩ | exact ⟨by omega, by omega⟩ | rfl | exact And.intro rfl (by omega)) ?_))<;>try (conv=>whnf)
    refine ⟨false, ⟨by omega, hK, hL, hg⟩, ?_⟩
    (repeat ((conv=>whnf);refine And.intro (by first|omega | exact ⟨by omega, trivial⟩ | exact ⟨by omega, by omega⟩ | rfl | exact And.intro rfl (by omega)) ?_))<;>try (conv=>whnf)
    all_goals (repeat' first|exact True.intro|exact rfl|apply And.intro|assumption|omega|(exact Or.inr (by assumption))|(refine congrArg (Value.int .i64) ?_;omega))
  | true =>
    (repeat ((conv=>whnf);refine And.intro (by first|omega | exact ⟨by omega, trivial⟩ | exact ⟨by omega, by omega⟩ | rfl | exact And.intro rfl (by omega)) ?_))<;>try (conv=>whnf)
    refine ⟨true, ⟨by omega, hK, hL, hg⟩, ?_⟩
    (repeat ((conv=>whnf);refine And.intro (by first|omega | exact ⟨by omega, trivial⟩ | exact ⟨by omega, by omega⟩ | rfl | exact And.intro rfl (by omega)) ?_))<;>try (conv=>whnf)
    all_goals (repeat' first|exact True.intro|exact rfl|apply And.intro|assumption|omega|(exact Or.inr (by assumption))|(refine congrArg (Value.int .i64) ?_;omega))

set_option maxRecDepth 100000 in
noncomputable def above_s : PSpec Tryz.prog := ⟨126, spQZg (fun _ K n L (g : Bool) => K ≤ 2097152 ∧ L ≤ 2097152 ∧ (g = true ↔ 1 ≤ n)) (fun m K n _ g => optAv (abv m n) (K + 1) g), spQZg_fn (fn := Tryz.f126) (ctx_ok TT_ok [neigh_s]) mixed_ok (by kernel_rfl) (fun m K n L g _ _ hp => above_x m K n L g hp.1 hp.2.1 hp.2.2), by kernel_rfl⟩

end Go.Proofs.YtfgkecffpkdjcaaGreat
