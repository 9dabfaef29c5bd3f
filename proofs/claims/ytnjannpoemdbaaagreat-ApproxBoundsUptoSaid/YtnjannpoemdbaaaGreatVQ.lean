/- The other functions of package rational and of reference 03, by the executor. -/
import Derived.Test.YtnjannpoemdbaaaGreatVR
namespace Go.Proofs.YtnjannpoemdbaaaGreat
open Go.RowKit Gm Go.Vx

theorem spZZg_fn {P : Program} {C : Ctx} {f : FuncId} {fn : Func} (hC : CtxOk P C) (hm : P.follows .mixedOrders = true) (hf : P.funcs[f]? = some fn) {G : Type} {p : Int → Nat → Int → Nat → G → Prop} {r : Int → Nat → Int → Nat → G → Av} (h : ∀ m K n L g, SzI m K → SzI n L → p m K n L g → fnOk C fn [nAv m K, nAv n L] (r m K n L g)) : SpecOk P f (spZZg p r) := by
  intro own w vs xs hown ha
  cases ha with
  | nil => trivial
  | @cons v x _ _ hx ht =>
    cases ht with
    | nil => cases v <;> trivial
    | @cons v' y _ _ hy ht =>
      cases ht with
      | cons _ _ => cases v <;> cases v' <;> trivial
      | nil =>
        cases v with
        | agg a =>
          cases v' with
          | agg a' =>
            cases hr : Go.Vx.asInt a with
            | none => simp only [spZZg, hr]
            | some q =>
              obtain ⟨m, K⟩ := q
              cases hs : Go.Vx.asInt a' with
              | none => simp only [spZZg, hr, hs]
              | some q' =>
                obtain ⟨n, L⟩ := q'
                simp only [spZZg, hr, hs]
                intro g hp
                exact fn_ok hC hm hf (h m K n L g (by obtain ⟨_, _, _, hi⟩ := arg_z hx hr; exact hi.sz) (by obtain ⟨_, _, _, hi⟩ := arg_z hy hs; exact hi.sz) hp.2) hown (.cons (rob_z hx hr) (.cons (rob_z hy hs) .nil))
          | _ => trivial
        | _ => trivial
theorem spQQg_fn {P : Program} {C : Ctx} {f : FuncId} {fn : Func} (hC : CtxOk P C) (hm : P.follows .mixedOrders = true) (hf : P.funcs[f]? = some fn) {G : Type} {p : Rat → Nat → Rat → Nat → G → Prop} {r : Rat → Nat → Rat → Nat → G → Av} (h : ∀ m K n L g, Sz m K → Sz n L → p m K n L g → fnOk C fn [rAv m K, rAv n L] (r m K n L g)) : SpecOk P f (spQQg p r) :=
  spQQg_of fun _ _ _ _ m K n L g hown hx hy z1 z2 _ hp => fn_ok hC hm hf (h m K n L g z1 z2 hp) hown (.cons hx (.cons hy .nil))
/-- two natural numbers -/
def spNN (r : Nat → Nat → Av) : Go.Vx.Spec
  | [a, b] => match asNat1 a with
    | some (m, K) => match asNat1 b with
      | some (n, L) => .res (some (K + L ≤ 4294967296)) (r m n)
      | none => .no
    | none => .no
  | _ => .no
theorem spNN_ok {P : Program} {f : FuncId} {r : Nat → Nat → Av} (h : ∀ (own : Nat → Prop) (w : World) (A : Option Addr) (xs : List Nat) (c : Nat) (B : Option Addr) (ys : List Nat) (d : Nat), (∀ b, own b → b < w.heap.size) → Lim w A c xs → Lim w B d ys → xs.length + ys.length ≤ 4294967296 → CallOk own P f [.slice A xs.length c, .slice B ys.length d] w (r (val xs) (val ys))) : SpecOk P f (spNN r) := by
  intro own w vs xs hown ha
  cases ha with
  | nil => trivial
  | @cons a x _ _ hx ht =>
    cases ht with
    | nil => trivial
    | @cons b y _ _ hy ht =>
      cases ht with
      | cons _ _ => trivial
      | nil =>
        cases hr : asNat1 a with
        | none => simp only [spNN, hr]
        | some p =>
          obtain ⟨m, K⟩ := p
          cases hs : asNat1 b with
          | none => simp only [spNN, hr, hs]
          | some q =>
            obtain ⟨n, L⟩ := q
            simp only [spNN, hr, hs]
            intro hp
            simp only [vcT] at hp
            obtain ⟨A, us, c, e1, h1, h2, rfl⟩ := asNat1_ok hr hx.here
            obtain ⟨B, vs', d, e2, h3, h4, rfl⟩ := asNat1_ok hs hy.here
            simp at e1 e2
            subst e1 e2
            exact h own w A us c B vs' d hown h1 h3 (by omega)
def NCmp_s : PSpec Tryz.prog := ⟨53, spNN (fun m n => .val (.int .i64 (cmpN m n))), spNN_ok fun _ w A xs c B ys d _ ha hb _ => CallOk.i (Compare_n A B xs ys c d w _ _ _ ha hb rfl rfl rfl), by kernel_rfl⟩
/-- a rational number as it lies -/
def rw2Av (s : Bool) (m K d L : Nat) : Av := .agg (.cons (.val (.bool s)) (.cons (.nat m K) (.cons (.nat d L) .nil)))
def spRW (p : Bool → Nat → Nat → Nat → Nat → Prop) (r : Bool → Nat → Nat → Nat → Nat → Av) : Go.Vx.Spec
  | [.agg (.cons (.val (.bool s)) (.cons (.nat m K) (.cons (.nat d L) .nil)))] => .res (some (p s m K d L)) (r s m K d L)
  | _ => .no
theorem spRW_fn {P : Program} {C : Ctx} {f : FuncId} {fn : Func} (hC : CtxOk P C) (hm : P.follows .mixedOrders = true) (hf : P.funcs[f]? = some fn) {p : Bool → Nat → Nat → Nat → Nat → Prop} {r : Bool → Nat → Nat → Nat → Nat → Av} (h : ∀ s m K d L, p s m K d L → fnOk C fn [rw2Av s m K d L] (r s m K d L)) : SpecOk P f (spRW p r) := by
  intro own w vs xs hown ha
  generalize e : spRW p r vs = z
  unfold spRW at e
  split at e
  · subst e
    intro hp
    exact fn_ok hC hm hf (h _ _ _ _ _ hp) hown ha
  · subst e; trivial
/-- numerator and denominator that is not 0 -/
def pN (s : Bool) (m d : Nat) : Int := if d = 0 then 0 else sg s m
def pD (d : Nat) : Nat := if d = 0 then 1 else d
theorem pD_nz (d : Nat) : pD d ≠ 0 := by unfold pD; split <;> omega
theorem pND (s : Bool) (m d : Nat) : mkRat (sg s m) d = mkRat (pN s m d) (pD d) := by
  unfold pN pD
  by_cases h : d = 0
  · rw [if_pos h, if_pos h, h, Rat.mkRat_zero, Rat.zero_mkRat]
  · rw [if_neg h, if_neg h]
theorem cmpN_zero (d : Nat) : (cmpN d 0 == 0) = true ↔ d = 0 := by
  rw [beq_iff_eq]; unfold cmpN; split <;> (try split) <;> omega
theorem sgz' (n : Int) : sgn n = 0 ↔ n = 0 := by unfold sgn; split <;> (try split) <;> omega
theorem ceil_mk (s : Bool) (m d : Nat) : (mkRat (sg s m) d).ceil = if pN s m d % (pD d : Int) = 0 then pN s m d / (pD d : Int) else pN s m d / (pD d : Int) + 1 := by
  have hD := pD_nz d
  rw [pND, Rat.ceil_eq_neg_floor_neg, Rat.neg_mkRat, mkRat_floor hD, Int.neg_ediv]
  by_cases h : pN s m d % (pD d : Int) = 0
  · rw [if_pos h, if_pos (Int.dvd_of_emod_eq_zero h)]; omega
  · rw [if_neg h, if_neg (fun hh => h (Int.emod_eq_zero_of_dvd hh)), Int.sign_eq_one_of_pos (by omega)]; omega
theorem sgz (n : Int) : (sgn n == 0) = true ↔ n = 0 := by
  rw [beq_iff_eq]; unfold sgn; split <;> (try split) <;> omega
theorem mk_divInt {n : Int} (h : 0 ≤ n) (m : Int) : mkRat m n.natAbs = Rat.divInt m n := by
  obtain ⟨k, rfl⟩ : ∃ k : Nat, n = k := ⟨n.natAbs, by omega⟩
  rw [Rat.divInt_ofNat, Int.natAbs_natCast]
theorem gcd_pos {m n : Int} (h : n ≠ 0) : 0 < (Nat.gcd m.natAbs n.natAbs : Int) := by
  have : 0 < Nat.gcd m.natAbs n.natAbs := Nat.gcd_pos_of_pos_right _ (by omega)
  omega
theorem dI_parts {m n : Int} (h : n ≠ 0) : (0 < n → m / (Nat.gcd m.natAbs n.natAbs : Int) = (Rat.divInt m n).num ∧ (n / (Nat.gcd m.natAbs n.natAbs : Int)).natAbs = (Rat.divInt m n).den) ∧ (n < 0 → -(m / (Nat.gcd m.natAbs n.natAbs : Int)) = (Rat.divInt m n).num ∧ (n / (Nat.gcd m.natAbs n.natAbs : Int)).natAbs = (Rat.divInt m n).den) := by
  have hg := gcd_pos (m := m) h
  have e : (Int.gcd n m : Int) = (Nat.gcd m.natAbs n.natAbs : Int) := by rw [Int.gcd_comm]; rfl
  have d1 : (Nat.gcd m.natAbs n.natAbs : Int) ∣ m := Int.ofNat_dvd_left.2 (Nat.gcd_dvd_left _ _)
  have d2 : (Nat.gcd m.natAbs n.natAbs : Int) ∣ n := Int.ofNat_dvd_left.2 (Nat.gcd_dvd_right _ _)
  have hd : (n / (Nat.gcd m.natAbs n.natAbs : Int)).natAbs = (Rat.divInt m n).den := by
    rw [Rat.den_divInt, if_neg h, Int.natAbs_ediv_of_dvd d2, Int.natAbs_natCast]
    congr 1
    rw [Int.gcd_comm]; rfl
  refine ⟨fun hp => ⟨?_, hd⟩, fun hp => ⟨?_, hd⟩⟩
  · rw [Rat.num_divInt, Int.sign_eq_one_of_pos hp, Int.one_mul, e]
  · rw [Rat.num_divInt, Int.sign_eq_neg_one_of_neg hp, e, Int.neg_mul, Int.one_mul, Int.neg_ediv_of_dvd d1]
theorem div_neg_iff {m n : Int} (h : n ≠ 0) : (n / (Nat.gcd m.natAbs n.natAbs : Int) < 0) ↔ n < 0 := by
  have hg := gcd_pos (m := m) h
  constructor
  · intro h1
    rcases Int.lt_or_le n 0 with h2 | h2
    · exact h2
    · have := Int.ediv_nonneg h2 (Int.le_of_lt hg); omega
  · intro h1; exact Int.ediv_neg_of_neg_of_pos h1 hg
theorem dI_one (m : Int) : Rat.divInt m 1 = (m : Rat) := by
  rw [Rat.divInt_eq_div]; simp; grind
theorem dI_div (q r : Rat) : Rat.divInt (q.num * r.den) (q.den * r.num) = q * r⁻¹ := by
  rw [Rat.inv_def]
  conv => rhs; lhs; rw [← Rat.num_divInt_den q]
  rw [Rat.divInt_mul_divInt]
theorem mk_inv (s : Bool) (m d : Nat) : mkRat (sg s d) m = (mkRat (sg s m) d)⁻¹ := by
  rw [← Rat.divInt_ofNat, ← Rat.divInt_ofNat, Rat.inv_divInt]
  cases s with
  | false => rfl
  | true => show Rat.divInt (-(d : Int)) m = Rat.divInt d (-(m : Int)); rw [Rat.divInt_neg']
theorem sz_div {q r : Rat} {K L : Nat} (h : Sz q K) (h2 : Sz r L) : Sz (q * r⁻¹) (K + L) := sz_mul2 h (sz_inv1 h2)
theorem w64 {x : Int} (h1 : -9223372036854775808 ≤ x) (h2 : x ≤ 9223372036854775807) : IntKind.i64.wrap x = x := (Go.IntWalk.i64_left x).trans (Go.IntWalk.wrap64_in x ⟨h1, h2⟩)
theorem cmpR_gt {r s : Rat} : 0 < cmpR r s ↔ s < r := by
  unfold cmpR
  by_cases h1 : r < s
  · rw [if_pos h1]; exact ⟨fun h => by omega, fun h => absurd h1 (Rat.not_lt.2 (Rat.le_of_lt h))⟩
  · rw [if_neg h1]
    by_cases h2 : s < r
    · rw [if_pos h2]; exact ⟨fun _ => h2, fun _ => by omega⟩
    · rw [if_neg h2]; exact ⟨fun h => by omega, fun h => absurd h h2⟩
theorem cmpR_lt {r s : Rat} : cmpR r s < 0 ↔ r < s := by
  unfold cmpR
  by_cases h1 : r < s
  · rw [if_pos h1]; exact ⟨fun _ => h1, fun _ => by omega⟩
  · rw [if_neg h1]
    by_cases h2 : s < r
    · rw [if_pos h2]; exact ⟨fun h => by omega, fun h => absurd h h1⟩
    · rw [if_neg h2]; exact ⟨fun h => by omega, fun h => absurd h h1⟩
theorem sgn_pos {r : Rat} : 0 < sgn r.num ↔ 0 < r := by
  have e : 0 < r ↔ 0 < r.num := by rw [Rat.lt_iff]; simp
  rw [e]; unfold sgn; split <;> (try split) <;> omega
theorem sgn_neg {r : Rat} : sgn r.num < 0 ↔ r < 0 := by
  have e : r < 0 ↔ r.num < 0 := by rw [Rat.lt_iff]; simp
  rw [e]; unfold sgn; split <;> (try split) <;> omega
theorem mkRat_one' (n : Int) : mkRat n 1 = (n : Rat) := Rat.mkRat_one n
set_option smartUnfolding false in
set_option maxRecDepth 100000 in
theorem rMk_x (m : Int) (K : Nat) (n : Int) (L G : Nat) (hG : Sz (Rat.divInt m n) G) (hK : K + L ≤ 1073741824) : fnOk ⟨TT, specsOf [rISign_s, rZero_s, rINorm_s, rNEq_s, rIGCD_s, rIDivMod_s, rINeg_s]⟩ Tryz.f17 [nAv m K, nAv n L] (qAv (Rat.divInt m n) G) := by
  (repeat ((conv => whnf); refine And.intro (by first | omega | exact ⟨by omega, trivial⟩ | exact ⟨by omega, by omega⟩ | rfl | exact And.intro rfl (by omega)) ?_)) <;> try (conv => whnf)
  refine And.intro (fun h1 => ?_) (fun h1 => ?_)
  · (repeat ((conv => whnf); refine And.intro (by first | omega | exact ⟨by omega, trivial⟩ | exact ⟨by omega, by omega⟩ | rfl | exact And.intro rfl (by omega)) ?_)) <;> try (conv => whnf)
    have h2 : n = 0 := (sgz n).1 h1
    exact And.intro (And.intro (by rw [h2, Rat.divInt_zero]) (.inl hG.one)) True.intro
  have h2 : n ≠ 0 := fun e => by rw [(sgz n).2 e] at h1; cases h1
  have hg := gcd_pos (m := m) h2
  have hp := dI_parts (m := m) h2
  have hn := div_neg_iff (m := m) h2
  (repeat ((conv => whnf); refine And.intro (by first | omega | exact ⟨by omega, trivial⟩ | exact ⟨by omega, by omega⟩ | rfl | exact And.intro rfl (by omega)) ?_)) <;> try (conv => whnf)
  refine And.intro (fun h3 => ?_) (fun h3 => ?_)
  · have h3' : ¬ n < 0 := by simpa using h3
    (repeat ((conv => whnf); refine And.intro (by first | omega | exact ⟨by omega, trivial⟩ | exact ⟨by omega, by omega⟩ | rfl | exact And.intro rfl (by omega) | (simp only [canK]; omega)) ?_)) <;> try (conv => whnf)
    refine And.intro (fun h4 => ?_) (fun h4 => ?_)
    · (repeat ((conv => whnf); refine And.intro (by first | omega | exact ⟨by omega, trivial⟩ | exact ⟨by omega, by omega⟩ | rfl | exact And.intro rfl (by omega)) ?_)) <;> try (conv => whnf)
      have e1 : n = 1 := by
        have h6 : n.natAbs = 1 := of_decide_eq_true h4
        omega
      subst e1
      exact And.intro (And.intro (by rw [dI_one]; rfl) (And.intro (by rw [dI_one]; rfl) (.inr hG))) True.intro
    · (repeat ((conv => whnf); refine And.intro (by first | omega | exact ⟨by omega, trivial⟩ | exact ⟨by omega, by omega⟩ | rfl | exact And.intro rfl (by omega)) ?_)) <;> try (conv => whnf)
      refine And.intro (fun h5 => ?_) (fun h5 => ?_)
      · exact absurd (hn.1 (of_decide_eq_true h5)) h3'
      · (repeat ((conv => whnf); refine And.intro (by first | omega | exact ⟨by omega, trivial⟩ | exact ⟨by omega, by omega⟩ | rfl | exact And.intro rfl (by omega)) ?_)) <;> try (conv => whnf)
        obtain ⟨a, b⟩ := hp.1 (by omega)
        exact And.intro (And.intro a (And.intro b (.inr hG))) True.intro
  · have h3' : n < 0 := by simpa using h3
    (repeat ((conv => whnf); refine And.intro (by first | omega | exact ⟨by omega, trivial⟩ | exact ⟨by omega, by omega⟩ | rfl | exact And.intro rfl (by omega)) ?_)) <;> try (conv => whnf)
    refine And.intro (fun h5 => ?_) (fun h5 => ?_)
    · (repeat ((conv => whnf); refine And.intro (by first | omega | exact ⟨by omega, trivial⟩ | exact ⟨by omega, by omega⟩ | rfl | exact And.intro rfl (by omega)) ?_)) <;> try (conv => whnf)
      obtain ⟨a, b⟩ := hp.2 h3'
      exact And.intro (And.intro a (And.intro (by rw [Int.natAbs_neg]; exact b) (.inr hG))) True.intro
    · exact absurd (hn.2 h3') (of_decide_eq_false h5)

set_option maxRecDepth 100000 in
def rMk_s : PSpec Tryz.prog := ⟨17, spZZg (fun m K n L (g : Nat) => Sz (Rat.divInt m n) g ∧ K + L ≤ 1073741824) (fun m _ n _ g => qAv (Rat.divInt m n) g), spZZg_fn (fn := Tryz.f17) (ctx_ok TT_ok [rISign_s, rZero_s, rINorm_s, rNEq_s, rIGCD_s, rIDivMod_s, rINeg_s]) mixed_ok (by kernel_rfl) (fun m K n L g _ _ hp => rMk_x m K n L g hp.1 hp.2), by kernel_rfl⟩

set_option smartUnfolding false in
set_option maxRecDepth 100000 in
theorem parts_x (s : Bool) (m K d L : Nat) (hL : 1 ≤ L) (hK : K + L ≤ 4294967296) : fnOk ⟨TT, specsOf [NCmp_s]⟩ Tryz.f57 [rw2Av s m K d L] (.tup (.cons (nAv (pN s m d) K) (.cons (.nat (pD d) L) .nil))) := by
  (repeat ((conv => whnf); refine And.intro (by first | omega | exact ⟨by omega, trivial⟩ | exact ⟨by omega, by omega⟩ | rfl | exact And.intro rfl (by omega)) ?_)) <;> try (conv => whnf)
  refine And.intro (fun h1 => ?_) (fun h1 => ?_)
  · have h0 : d = 0 := (cmpN_zero d).1 h1
    subst h0
    (repeat ((conv => whnf); refine And.intro (by first | omega | exact ⟨by omega, trivial⟩ | exact ⟨by omega, by omega⟩ | rfl | exact And.intro rfl (by omega)) ?_)) <;> try (conv => whnf)
    exact And.intro (And.intro (And.intro rfl (by omega)) True.intro) (And.intro (And.intro rfl (by omega)) True.intro)
  · have h0 : d ≠ 0 := fun e => by rw [(cmpN_zero d).2 e] at h1; cases h1
    (repeat ((conv => whnf); refine And.intro (by first | omega | exact ⟨by omega, trivial⟩ | exact ⟨by omega, by omega⟩ | rfl | exact And.intro rfl (by omega)) ?_)) <;> try (conv => whnf)
    exact And.intro (And.intro (And.intro (if_neg h0).symm (by omega)) True.intro) (And.intro (And.intro (if_neg h0).symm (by omega)) True.intro)

set_option maxRecDepth 100000 in
def parts_s : PSpec Tryz.prog := ⟨57, spRW (fun _ _ K _ L => 1 ≤ L ∧ K + L ≤ 4294967296) (fun s m K d L => .tup (.cons (nAv (pN s m d) K) (.cons (.nat (pD d) L) .nil))), spRW_fn (fn := Tryz.f57) (ctx_ok TT_ok [NCmp_s]) mixed_ok (by kernel_rfl) (fun s m K d L hp => parts_x s m K d L hp.1 hp.2), by kernel_rfl⟩

set_option smartUnfolding false in
set_option maxRecDepth 100000 in
theorem floor_x (s : Bool) (m K d L : Nat) (hL : 1 ≤ L) (hK : K + L ≤ 4294967296) : fnOk ⟨TT, specsOf [parts_s, IDivMod_s]⟩ Tryz.f96 [rw2Av s m K d L] (.tup (.cons (zAv (pN s m d / (pD d : Int)) K) (.cons (zAv (pN s m d % (pD d : Int)) L) (.cons (.agg (.cons (.kb false) (.cons (.nat (pD d) L) .nil))) .nil)))) := by
  have hD : (pD d : Int) ≠ 0 := by have := pD_nz d; omega
  (repeat ((conv => whnf); refine And.intro (by first | omega | exact ⟨by omega, trivial⟩ | exact ⟨by omega, by omega⟩ | rfl | exact And.intro rfl (by omega)) ?_)) <;> try (conv => whnf)
  all_goals (repeat' first | exact True.intro | exact rfl | apply And.intro | assumption | omega | (exact Or.inr (by assumption)) | (refine congrArg (Value.int IntKind.i64) ?_; omega))

set_option maxRecDepth 100000 in
def floor_s : PSpec Tryz.prog := ⟨96, spRW (fun _ _ K _ L => 1 ≤ L ∧ K + L ≤ 4294967296) (fun s m K d L => .tup (.cons (zAv (pN s m d / (pD d : Int)) K) (.cons (zAv (pN s m d % (pD d : Int)) L) (.cons (.agg (.cons (.kb false) (.cons (.nat (pD d) L) .nil))) .nil)))), spRW_fn (fn := Tryz.f96) (ctx_ok TT_ok [parts_s, IDivMod_s]) mixed_ok (by kernel_rfl) (fun s m K d L hp => floor_x s m K d L hp.1 hp.2), by kernel_rfl⟩

set_option smartUnfolding false in
set_option maxRecDepth 100000 in
theorem RFI_x (n : Int) (h : -9223372036854775808 ≤ n ∧ n ≤ 9223372036854775807) : fnOk ⟨TT, specsOf [IFromInt_s]⟩ Tryz.f50 [.val (.int .i64 n)] (qAv (mkRat n 1) 2) := by
  (repeat ((conv => whnf); refine And.intro (by first | omega | exact ⟨by omega, trivial⟩ | exact ⟨by omega, by omega⟩ | rfl | exact And.intro rfl (by omega)) ?_)) <;> try (conv => whnf)
  exact And.intro (And.intro (by rw [mkRat_one']; rfl) (And.intro (by rw [mkRat_one']; rfl) (.inl (by omega)))) True.intro

set_option maxRecDepth 100000 in
noncomputable def RFI_s : PSpec Tryz.prog := ⟨50, spI (fun n => qAv (mkRat n 1) 2) (fun n => -9223372036854775808 ≤ n ∧ n ≤ 9223372036854775807), spI_ok fun _ _ n ho h => fn_ok (ctx_ok TT_ok [IFromInt_s]) mixed_ok (fn := Tryz.f50) (by kernel_rfl) (RFI_x n h) ho (.cons (fun _ _ => rfl) .nil), by kernel_rfl⟩
end Go.Proofs.YtnjannpoemdbaaaGreat
