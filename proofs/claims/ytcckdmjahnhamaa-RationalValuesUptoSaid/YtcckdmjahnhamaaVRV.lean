/- RationalValues by the executor. -/
import Derived.Test.YtcckdmjahnhamaaVU
namespace Go.Proofs.Ytcckdmjahnhamaa
open Go.RowKit Gm Go.Vx

def fcAv (a b : Int) : Av := .agg (.cons (.val (.int .i64 a)) (.cons (.val (.int .i64 b)) .nil))
theorem sz_dI {m n : Int} {k l : Nat} (h : SzI m k) (h2 : SzI n l) : Sz (Rat.divInt m n) (k + l + 1) := by
  cases n with
  | ofNat d => exact sz_mk h h2
  | negSucc d =>
    show Sz (Rat.normalize (-m) d.succ (Nat.succ_ne_zero d)) _
    rw [Rat.normalize_eq_mkRat]
    exact sz_mk (by unfold SzI at *; rw [Int.natAbs_neg]; exact h) h2
theorem dI_zero (m : Int) : mkRat 0 1 = Rat.divInt m 0 := by rw [Rat.divInt_zero]; rfl
theorem spZZg_of {P : Program} {f : FuncId} {G : Type} {p : Int → Nat → Int → Nat → G → Prop} {r : Int → Nat → Int → Nat → G → Av} (h : ∀ own w x y m K n L g, (∀ b, own b → b < w.heap.size) → Rob own w (nAv m K) [x] → Rob own w (nAv n L) [y] → p m K n L g → CallOk own P f [x, y] w (r m K n L g)) : SpecOk P f (spZZg p r) := by
  intro own w vs xs hown ha
  cases ha with
  | nil => trivial
  | @cons v x _ _ hx ht =>
    cases ht with
    | nil => cases v <;> trivial
    | @cons v' y _ _ hy ht =>
      cases ht with
      | cons _ _ => cases v <;> cases v' <;> trivial
      | nil =>
        cases v with
        | agg a =>
          cases v' with
          | agg a' =>
            cases hr : Go.Vx.asInt a with
            | none => simp only [spZZg, hr]
            | some q =>
              obtain ⟨m, K⟩ := q
              cases hs : Go.Vx.asInt a' with
              | none => simp only [spZZg, hr, hs]
              | some q' =>
                obtain ⟨n, L⟩ := q'
                simp only [spZZg, hr, hs]
                intro g hp
                exact h own w x y m K n L g hown (rob_z hx hr) (rob_z hy hs) hp.2
          | _ => trivial
        | _ => trivial
/-- a rational number and an integer, and a choice -/
def spQZg {G : Type} (p : Rat → Nat → Int → Nat → G → Prop) (r : Rat → Nat → Int → Nat → G → Av) : Go.Vx.Spec
  | [.agg a, .agg b] => match asRat a with
    | some (m, K) => match Go.Vx.asInt b with
      | some (n, L) => .gh G (fun g => K + L ≤ 4294967296 ∧ p m K n L g) (r m K n L)
      | none => .no
    | none => .no
  | _ => .no
theorem new_eq (s s' : Bool) (a b : Nat) : mkRat (sg (s != s') a) b = Rat.divInt (sg s a) (sg s' b) := by
  cases s <;> cases s' <;> simp only [sg, bne_self_eq_false, Bool.false_eq_true, if_false, if_true]
  · rw [Rat.divInt_ofNat]
  · show mkRat (-(a : Int)) b = _; rw [Rat.divInt_neg', Rat.divInt_ofNat]
  · show mkRat (-(a : Int)) b = _; rw [Rat.divInt_ofNat]
  · rw [Rat.neg_divInt_neg, Rat.divInt_ofNat]
theorem rob_szI {own : Nat → Prop} {w : World} {n : Int} {K : Nat} {x : Value} (h : Rob own w (nAv n K) [x]) : SzI n K := by
  obtain ⟨us, e, hu⟩ := h.here
  obtain ⟨b, s, _, hi⟩ := cons_nil hu
  exact hi.sz
theorem rob_fc {own : Nat → Prop} {w : World} (a b : Int) : Rob own w (fcAv a b) [.agg #[.int .i64 a, .int .i64 b]] := fun _ _ => ⟨[.int .i64 a, .int .i64 b], rfl, [.int .i64 a], [.int .i64 b], rfl, rfl, [.int .i64 b], [], rfl, rfl, rfl⟩
set_option smartUnfolding false in
set_option maxRecDepth 100000 in
theorem RNew_x (s : Bool) (a K : Nat) (s' : Bool) (b L : Nat) (g : Bool) (hK : K + L ≤ 1073741824) (hg : g = true ↔ sg s' b ≠ 0) : fnOk ⟨TT, specsOf [ISign_s, RNorm_s]⟩ Try.f4 [iwAv s a K, iwAv s' b L] (optAv (Rat.divInt (sg s a) (sg s' b)) (max (max K L) 1) g) := by
  cases g with
  | false =>
    have h0 : sg s' b = 0 := Classical.byContradiction fun h => by have := hg.2 h; cases this
    have hs : (sgn (sg s' b) == 0) = true := (sgz _).2 h0
    (repeat ((conv=>whnf);refine And.intro (by first|omega|exact True.intro|rfl|(constructor<;>first|omega|rfl|exact True.intro)|(dsimp only;omega)) ?_))<;>try (conv=>whnf)
    refine And.intro (fun h1 => ?_) (fun h1 => ?_)
    · (repeat ((conv=>whnf);refine And.intro (by first|omega|exact True.intro|rfl|(constructor<;>first|omega|rfl|exact True.intro)|(dsimp only;omega)) ?_))<;>try (conv=>whnf)
      all_goals (repeat' first|exact True.intro|exact rfl|apply And.intro|assumption|omega|exact Or.inr (by assumption)|(refine congrArg (Value.int .i64) ?_;omega))
    · exact absurd (hs.symm.trans h1) (by decide)
  | true =>
    have h0 : sg s' b ≠ 0 := hg.1 rfl
    (repeat ((conv=>whnf);refine And.intro (by first|omega|exact True.intro|rfl|(constructor<;>first|omega|rfl|exact True.intro)|(dsimp only;omega)) ?_))<;>try (conv=>whnf)
    refine And.intro (fun h1 => ?_) (fun h1 => ?_)
    · exact absurd ((sgz _).1 h1) h0
    · (repeat ((conv=>whnf);refine And.intro (by first|omega|exact True.intro|rfl|(constructor<;>first|omega|rfl|exact True.intro)|(dsimp only;omega)) ?_))<;>try (conv=>whnf)
      exact And.intro (And.intro (And.intro (new_eq s s' a b) (.inl (by omega))) True.intro) (And.intro rfl True.intro)

set_option maxRecDepth 100000 in
noncomputable def RNew_s : PSpec Try.prog := ⟨4, spZZg (fun _ K n L (g : Bool) => K + L ≤ 1073741824 ∧ (g = true ↔ n ≠ 0)) (fun m K n L g => optAv (Rat.divInt m n) (max (max K L) 1) g), spZZg_of fun own w x y m K n L g hown hx hy hp => by
    obtain ⟨s, a, rfl, hx2⟩ := rob_iw hx
    obtain ⟨s', b, rfl, hy2⟩ := rob_iw hy
    exact fn_ok (ctx_ok TT_ok [ISign_s, RNorm_s]) mixed_ok (fn := Try.f4) (by kernel_rfl) (RNew_x s a K s' b L g hp.1 hp.2) hown (.cons hx2 (.cons hy2 .nil)), by kernel_rfl⟩

set_option smartUnfolding false in
set_option maxRecDepth 100000 in
theorem rROg_x (a b : Int) (ha : -9223372036854775808 ≤ a ∧ a ≤ 9223372036854775807) (hb : -9223372036854775808 ≤ b ∧ b ≤ 9223372036854775807) : fnOk ⟨TT, specsOf [rIFromInt_s, rMk_s]⟩ Try.f32 [.val (.int .i64 a), .val (.int .i64 b)] (qAv (Rat.divInt a b) 5) := by
  have hz : Sz (Rat.divInt a b) 5 := sz_dI (szi_nat (n := a) (by omega)) (szi_nat (n := b) (by omega))
  (repeat ((conv=>whnf);refine And.intro (by first|omega|exact True.intro|rfl|(constructor<;>first|omega|rfl|exact True.intro)|(dsimp only;omega)) ?_))<;>try (conv=>whnf)
  refine ⟨5, ⟨by omega, hz, by omega⟩, ?_⟩
  (repeat ((conv=>whnf);refine And.intro (by first|omega|exact True.intro|rfl|(constructor<;>first|omega|rfl|exact True.intro)|(dsimp only;omega)) ?_))<;>try (conv=>whnf)
  all_goals (repeat' first|exact True.intro|exact rfl|apply And.intro|assumption|omega|exact Or.inr (by assumption)|(refine congrArg (Value.int .i64) ?_;omega))

set_option maxRecDepth 100000 in
noncomputable def rROg_s : PSpec Try.prog := ⟨32, spII (fun a b => qAv (Rat.divInt a b) 5) (fun a b => -9223372036854775808 ≤ a ∧ a ≤ 9223372036854775807 ∧ -9223372036854775808 ≤ b ∧ b ≤ 9223372036854775807), spII_ok fun _ _ a b ho h => fn_ok (ctx_ok TT_ok [rIFromInt_s, rMk_s]) mixed_ok (fn := Try.f32) (by kernel_rfl) (rROg_x a b ⟨h.1, h.2.1⟩ h.2.2) ho (.cons (fun _ _ => rfl) (.cons (fun _ _ => rfl) .nil)), by kernel_rfl⟩

set_option smartUnfolding false in
set_option maxRecDepth 100000 in
theorem rRFF_x (a b : Int) (ha : -9223372036854775808 ≤ a ∧ a ≤ 9223372036854775807) (hb : -9223372036854775808 ≤ b ∧ b ≤ 9223372036854775807) : fnOk ⟨TT, specsOf [rROg_s]⟩ Try.f14 [fcAv a b] (qAv (Rat.divInt a b) 5) := by
  (repeat ((conv=>whnf);refine And.intro (by first|omega|exact True.intro|rfl|(constructor<;>first|omega|rfl|exact True.intro)|(dsimp only;omega)) ?_))<;>try (conv=>whnf)
  all_goals (repeat' first|exact True.intro|exact rfl|apply And.intro|assumption|omega|exact Or.inr (by assumption)|(refine congrArg (Value.int .i64) ?_;omega))

set_option maxRecDepth 100000 in
noncomputable def rRFF_s : PSpec Try.prog := ⟨14, ghSpec (Int × Int) (fun | (c0, c1) => [fcAv c0 c1]) (fun | (c0, c1) => (-9223372036854775808 ≤ c0 ∧ c0 ≤ 9223372036854775807) ∧ (-9223372036854775808 ≤ c1 ∧ c1 ≤ 9223372036854775807)) (fun | (c0, c1) => qAv (Rat.divInt c0 c1) 5), ghSpec_ok (fn := Try.f14) (ctx_ok TT_ok [rROg_s]) mixed_ok (by kernel_rfl) (fun | (c0, c1), hp => rRFF_x c0 c1 hp.1 hp.2), by kernel_rfl⟩

set_option smartUnfolding false in
set_option maxRecDepth 100000 in
theorem RFF_x (a b : Int) (ha : -9223372036854775808 ≤ a ∧ a ≤ 9223372036854775807) (hb : -9223372036854775808 ≤ b ∧ b ≤ 9223372036854775807) : fnOk ⟨TT, specsOf [IFromInt_s, RNew_s, RFI_s]⟩ Try.f13 [fcAv a b] (qAv (Rat.divInt a b) 5) := by
  obtain ⟨g, hg⟩ : ∃ g : Bool, g = true ↔ b ≠ 0 := ⟨decide (b ≠ 0), decide_eq_true_iff⟩
  (repeat ((conv=>whnf);refine And.intro (by first|omega|exact True.intro|rfl|(constructor<;>first|omega|rfl|exact True.intro)|(dsimp only;omega)) ?_))<;>try (conv=>whnf)
  refine ⟨g, ⟨by omega, by omega, hg.1, hg.2⟩, ?_⟩
  cases g with
  | false =>
    have h0 : b = 0 := Classical.byContradiction fun h => by have := hg.2 h; cases this
    have e := dI_zero a
    (repeat ((conv=>whnf);refine And.intro (by first|omega|exact True.intro|rfl|(constructor<;>first|omega|rfl|exact True.intro)|(dsimp only;omega)) ?_))<;>try (conv=>whnf)
    all_goals (repeat' first|exact True.intro|exact rfl|apply And.intro|assumption|omega|exact Or.inr (by assumption)|(refine congrArg (Value.int .i64) ?_;omega))
    all_goals (subst h0; exact e)
  | true =>
    (repeat ((conv=>whnf);refine And.intro (by first|omega|exact True.intro|rfl|(constructor<;>first|omega|rfl|exact True.intro)|(dsimp only;omega)) ?_))<;>try (conv=>whnf)
    all_goals (repeat' first|exact True.intro|exact rfl|apply And.intro|assumption|omega|exact Or.inr (by assumption)|(refine congrArg (Value.int .i64) ?_;omega))

set_option maxRecDepth 100000 in
noncomputable def RFF_s : PSpec Try.prog := ⟨13, ghSpec (Int × Int) (fun | (c0, c1) => [fcAv c0 c1]) (fun | (c0, c1) => (-9223372036854775808 ≤ c0 ∧ c0 ≤ 9223372036854775807) ∧ (-9223372036854775808 ≤ c1 ∧ c1 ≤ 9223372036854775807)) (fun | (c0, c1) => qAv (Rat.divInt c0 c1) 5), ghSpec_ok (fn := Try.f13) (ctx_ok TT_ok [IFromInt_s, RNew_s, RFI_s]) mixed_ok (by kernel_rfl) (fun | (c0, c1), hp => RFF_x c0 c1 hp.1 hp.2), by kernel_rfl⟩

set_option maxHeartbeats 4000000 in
set_option smartUnfolding false in
set_option maxRecDepth 100000 in
theorem rvals_x (a b : Rat) (f1 f2 m n v : Int) (K : Nat) (hK : K ≤ 1048576) (hm : SzI m K) (hn : SzI n K) (hf1 : -9223372036854775808 ≤ f1 ∧ f1 ≤ 9223372036854775807) (hf2 : -9223372036854775808 ≤ f2 ∧ f2 ≤ 9223372036854775807) (hv : -9223372036854775808 ≤ v ∧ v ≤ 9223372036854775807) : fnOk ⟨TT, specsOf [RNew_s, rISign_s, rMk_s, rREq_s, awake3_s, RNorm_s, rRNorm_s, RFI_s, rRFromInt_s, RFF_s, rRFF_s, RSign_s, rRSign_s, RCmp_s, rRCmp_s, RMin_s, rRMin_s, RMax_s, rRMax_s]⟩ Try.f3 [rAv a K, rAv b K, fcAv f1 f2, nAv m K, nAv n K, .val (.int .i64 v)] (.val (.bool true)) := by
  have hz := sz_dI hm hn
  obtain ⟨g, hg⟩ : ∃ g : Bool, g = true ↔ n ≠ 0 := ⟨decide (n ≠ 0), decide_eq_true_iff⟩
  cases g with
  | false =>
    have h0 : n = 0 := Classical.byContradiction fun h => by have := hg.2 h; cases this
    have hs : sgn n = 0 := by rw [h0]; rfl
    (repeat ((conv=>whnf);refine And.intro (by first|omega|exact True.intro|rfl|(constructor<;>first|omega|rfl|exact True.intro)|(dsimp only;omega)) ?_))<;>try (conv=>whnf)
    refine ⟨false, ⟨by omega, by omega, hg.1, hg.2⟩, ?_⟩
    (repeat' (first | (refine And.intro (fun h => ?_) (fun _ => ?_); focus (exfalso; revert h; first | decide | (simp; done) | (simp [hs]; done))) | (refine And.intro (fun _ => ?_) (fun h => ?_); rotate_left; focus (exfalso; revert h; first | decide | (simp; done) | (simp [hs]; done))) | ((conv => whnf); refine And.intro (by first|omega|exact True.intro|rfl|(constructor<;>first|omega|rfl|exact True.intro)|(dsimp only;omega)) ?_) | fail))<;>try (conv => whnf)
    refine ⟨(f1, f2), ⟨⟨hf1, hf2⟩, And.intro (And.intro rfl (And.intro rfl True.intro)) True.intro⟩, ?_⟩
    (repeat' (first | (refine And.intro (fun h => ?_) (fun _ => ?_); focus (exfalso; revert h; first | decide | (simp; done))) | (refine And.intro (fun _ => ?_) (fun h => ?_); rotate_left; focus (exfalso; revert h; first | decide | (simp; done))) | ((conv => whnf); refine And.intro (by first|omega|exact True.intro|rfl|(constructor<;>first|omega|rfl|exact True.intro)|(dsimp only;omega)) ?_) | fail))<;>try (conv => whnf)
    refine ⟨(f1, f2), ⟨⟨hf1, hf2⟩, And.intro (And.intro rfl (And.intro rfl True.intro)) True.intro⟩, ?_⟩
    (repeat' (first | (refine And.intro (fun h => ?_) (fun _ => ?_); focus (exfalso; revert h; first | decide | (simp; done))) | (refine And.intro (fun _ => ?_) (fun h => ?_); rotate_left; focus (exfalso; revert h; first | decide | (simp; done))) | ((conv => whnf); refine And.intro (by first|omega|exact True.intro|rfl|(constructor<;>first|omega|rfl|exact True.intro)|(dsimp only;omega)) ?_) | fail))<;>try (conv => whnf)
    exact congrArg Value.bool (decide_eq_true rfl)
  | true =>
    have h0 : n ≠ 0 := hg.1 rfl
    have hs : sgn n ≠ 0 := fun h => h0 ((sgz n).1 (beq_iff_eq.2 h))
    (repeat ((conv=>whnf);refine And.intro (by first|omega|exact True.intro|rfl|(constructor<;>first|omega|rfl|exact True.intro)|(dsimp only;omega)) ?_))<;>try (conv=>whnf)
    refine ⟨true, ⟨by omega, by omega, hg.1, hg.2⟩, ?_⟩
    (repeat' (first | (refine And.intro (fun h => ?_) (fun _ => ?_); focus (exfalso; revert h; first | decide | (simp; done) | (simp [hs]; done))) | (refine And.intro (fun _ => ?_) (fun h => ?_); rotate_left; focus (exfalso; revert h; first | decide | (simp; done) | (simp [hs]; done))) | ((conv => whnf); refine And.intro (by first|omega|exact True.intro|rfl|(constructor<;>first|omega|rfl|exact True.intro)|(dsimp only;omega)) ?_) | fail))<;>try (conv => whnf)
    refine ⟨K + K + 1, ⟨by omega, hz, by omega⟩, ?_⟩
    (repeat' (first | (refine And.intro (fun h => ?_) (fun _ => ?_); focus (exfalso; revert h; first | decide | (simp; done))) | (refine And.intro (fun _ => ?_) (fun h => ?_); rotate_left; focus (exfalso; revert h; first | decide | (simp; done))) | ((conv => whnf); refine And.intro (by first|omega|exact True.intro|rfl|(constructor<;>first|omega|rfl|exact True.intro)|(dsimp only;omega)) ?_) | fail))<;>try (conv => whnf)
    refine ⟨(f1, f2), ⟨⟨hf1, hf2⟩, And.intro (And.intro rfl (And.intro rfl True.intro)) True.intro⟩, ?_⟩
    (repeat' (first | (refine And.intro (fun h => ?_) (fun _ => ?_); focus (exfalso; revert h; first | decide | (simp; done))) | (refine And.intro (fun _ => ?_) (fun h => ?_); rotate_left; focus (exfalso; revert h; first | decide | (simp; done))) | ((conv => whnf); refine And.intro (by first|omega|exact True.intro|rfl|(constructor<;>first|omega|rfl|exact True.intro)|(dsimp only;omega)) ?_) | fail))<;>try (conv => whnf)
    refine ⟨(f1, f2), ⟨⟨hf1, hf2⟩, And.intro (And.intro rfl (And.intro rfl True.intro)) True.intro⟩, ?_⟩
    (repeat' (first | (refine And.intro (fun h => ?_) (fun _ => ?_); focus (exfalso; revert h; first | decide | (simp; done))) | (refine And.intro (fun _ => ?_) (fun h => ?_); rotate_left; focus (exfalso; revert h; first | decide | (simp; done))) | ((conv => whnf); refine And.intro (by first|omega|exact True.intro|rfl|(constructor<;>first|omega|rfl|exact True.intro)|(dsimp only;omega)) ?_) | fail))<;>try (conv => whnf)
    exact congrArg Value.bool (decide_eq_true rfl)

set_option maxRecDepth 100000 in
theorem rvals_walk (p0 : Bool) (A0 : Option Addr) (xs0 : List Nat) (c0 : Nat) (B0 : Option Addr) (ys0 : List Nat) (d0 : Nat) (p1 : Bool) (A1 : Option Addr) (xs1 : List Nat) (c1 : Nat) (B1 : Option Addr) (ys1 : List Nat) (d1 : Nat) (f1 f2 : Int) (p3 : Bool) (A3 : Option Addr) (xs3 : List Nat) (c3 : Nat) (p4 : Bool) (A4 : Option Addr) (xs4 : List Nat) (c4 : Nat) (v : Int) (w : World) (h0 : Lim w A0 c0 xs0) (g0 : Lim w B0 d0 ys0) (h1 : Lim w A1 c1 xs1) (g1 : Lim w B1 d1 ys1) (h3 : Lim w A3 c3 xs3) (h4 : Lim w A4 c4 xs4) (k0 : xs0.length ≤ 1048576) (l0 : ys0.length ≤ 1048576) (k1 : xs1.length ≤ 1048576) (l1 : ys1.length ≤ 1048576) (k3 : xs3.length ≤ 1048576) (k4 : xs4.length ≤ 1048576) (e1 : -9223372036854775808 ≤ f1 ∧ f1 ≤ 9223372036854775807) (e2 : -9223372036854775808 ≤ f2 ∧ f2 ≤ 9223372036854775807) (e5 : -9223372036854775808 ≤ v ∧ v ≤ 9223372036854775807) :
    Calls Try.prog 3 #[.agg #[.bool p0, .slice A0 xs0.length c0, .slice B0 ys0.length d0], .agg #[.bool p1, .slice A1 xs1.length c1, .slice B1 ys1.length d1], .agg #[.int .i64 f1, .int .i64 f2], .agg #[.bool p3, .slice A3 xs3.length c3], .agg #[.bool p4, .slice A4 xs4.length c4], .int .i64 v] w (RetB w true) :=
  call_b (fn_ok (own := fun _ => False) (ctx_ok TT_ok [RNew_s, rISign_s, rMk_s, rREq_s, awake3_s, RNorm_s, rRNorm_s, RFI_s, rRFromInt_s, RFF_s, rRFF_s, RSign_s, rRSign_s, RCmp_s, rRCmp_s, RMin_s, rRMin_s, RMax_s, rRMax_s]) mixed_ok (fn := Try.f3) (by kernel_rfl) (rvals_x _ _ f1 f2 _ _ v 1048576 (Nat.le_refl _) (rob_szI (rob_int p3 h3 k3)) (rob_szI (rob_int p4 h4 k4)) e1 e2 e5) (fun _ h => h.elim) (.cons (rob_rat p0 h0 g0 k0 l0 (by decide)) (.cons (rob_rat p1 h1 g1 k1 l1 (by decide)) (.cons (rob_fc f1 f2) (.cons (rob_int p3 h3 k3) (.cons (rob_int p4 h4 k4) (.cons (fun _ _ => rfl) .nil)))))))
end Go.Proofs.Ytcckdmjahnhamaa
