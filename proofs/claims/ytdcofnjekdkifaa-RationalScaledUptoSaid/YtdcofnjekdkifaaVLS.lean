/- RationalScaled by the executor: it returns true. -/
import Derived.Test.YtdcofnjekdkifaaVQ
import Derived.Test.YtdcofnjekdkifaaOpen
namespace Go.Proofs.Ytdcofnjekdkifaa
open Go.RowKit Gm Go.Vx

def awake3_s : PSpec Try.prog := ⟨8, sp0 (.kb true), sp0_ok fun _ w _ => show CallOk _ _ _ _ _ (.val (.bool true)) from CallOk.b (awake3_c w), by kernel_rfl⟩
/-- an integer times a literal of one limb -/
def spZL : Go.Vx.Spec
  | [.agg a, .agg (.cons (.kb false) (.cons (.list sz n f) .nil))] => match Nat.beq sz 1 with
    | true => match Nat.beq n 1 with
      | true => match f 0 with
        | .cons (.val (.int .u32 (.ofNat k))) .nil => match Go.Vx.asInt a with
          | some (m, K) => .res (some (K + 1 ≤ 4294967296 ∧ 0 < k ∧ k < 4294967296)) (zAv (m * (k : Int)) (K + 1))
          | none => .no
        | _ => .no
      | false => .no
    | false => .no
  | _ => .no
theorem one_limb {w : World} {A : Option Addr} {k c : Nat} {f : Nat → Av} (hf : f 0 = .cons (.val (.int .u32 (.ofNat k))) .nil) (hk : k < 4294967296) (h : Hold w (.list 1 1 f) [.slice A 1 c]) : Lim w A c [k] := by
  obtain ⟨A', c', e, hc, hh⟩ := h
  simp at e
  obtain ⟨rfl, rfl⟩ := e
  obtain ⟨b, off, us, rfl, hb, hl, hcs, h1, hr⟩ := hh (by decide)
  refine ⟨fun x hx => ?_, hc.1, hc.2, fun _ => ⟨b, off, rfl, hb, fun j hj => ?_⟩⟩
  · simp at hx; subst hx; exact hk
  · have hj0 : j = 0 := by simpa using hj
    subst hj0
    have h2 := hr 0 (by decide)
    rw [hf] at h2
    have h3 := cons_nil h2
    simp only [Hold] at h3
    obtain ⟨u, rfl⟩ := List.length_eq_one_iff.1 hl
    simp [seg] at h3
    subst h3
    exact hcs 0 _ rfl
theorem spZL_ok : SpecOk Try.prog 25 spZL := by
  intro own w vs xs hown ha
  generalize e : spZL vs = z
  unfold spZL at e
  split at e
  · rename_i a sz n f
    cases hs : Nat.beq sz 1 with
    | false => rw [hs] at e; subst e; trivial
    | true =>
      cases hn : Nat.beq n 1 with
      | false => rw [hs, hn] at e; subst e; trivial
      | true =>
        rw [hs, hn] at e
        have := Nat.eq_of_beq_eq_true hs
        have := Nat.eq_of_beq_eq_true hn
        subst sz n
        simp only at e
        split at e
        · rename_i k hk
          cases hr : Go.Vx.asInt a with
          | none => rw [hr] at e; subst e; trivial
          | some q =>
            obtain ⟨m, K⟩ := q
            rw [hr] at e
            subst e
            intro hp
            simp only [vcT] at hp
            cases ha with
            | @cons _ x _ _ hx ht =>
              cases ht with
              | @cons _ y _ _ hy ht =>
                cases ht
                obtain ⟨b, s, rfl, hi⟩ := arg_z hx hr
                obtain ⟨us, e, hu⟩ := hy.here
                simp at e
                subst e
                obtain ⟨p1, p2, rfl, g1, g2⟩ := hu
                simp only [Hold] at g1
                subst g1
                have g3 := cons_nil g2
                have g3' := g3
                obtain ⟨A, c, rfl, hc, _⟩ := g3
                have hl := one_limb hk hp.2.2 g3'
                have hii : IsInt w (.bool false) (.slice A 1 c) (k : Int) (K + 1) := ⟨false, A, [k], c, rfl, rfl, hl, by simp, by simp [iv, val]⟩
                have hz : SzI (k : Int) 1 := by
                  unfold SzI
                  rw [Int.natAbs_natCast, limbs_pos (by omega), show k / Ba = 0 from Nat.div_eq_of_lt hp.2.2, limbs_zero]
                  simp
                exact CallOk.z hown (szi_mul hi.sz hz) (rIMul_v (hi.mono (Nat.le_succ K)) hii (bb_le hp.1) rfl)
        · subst e; trivial
  · subst e; trivial
def rIMulL_s : PSpec Try.prog := ⟨25, spZL, spZL_ok, by kernel_rfl⟩
def RSize_s : PSpec Try.prog := ⟨29, spQ (fun _ _ => True) (fun m _ => .val (.int .i64 (rsz m : Nat))), spQ_ok fun _ _ _ _ _ _ _ _ h1 _ hK _ => CallOk.i (RSize_v h1 (bb_le hK) rfl), by kernel_rfl⟩
theorem scale_eq (s : Bool) (m d k : Nat) (hk : 0 < k) : mkRat (sg s m * (k : Int)) (((d : Int) * (k : Int)).natAbs) = mkRat (sg s m) d := by
  rw [← Int.natCast_mul, Int.natAbs_natCast]
  exact Rat.mkRat_mul_right (by omega)
set_option smartUnfolding false in
set_option maxRecDepth 100000 in
theorem rscaled_x (s : Bool) (m d : Nat) (b : Rat) (K k : Nat) (hK : 1 ≤ K ∧ K ≤ 1048576) (hk : k < 4294967296) : fnOk ⟨TT, specsOf [awake3_s, rRSign_s, rIMulL_s, RAdd_s, RMul_s, rREq_s, RCmp_s, RFloor_s, rIEq_s, RSize_s]⟩ Try.f5 [rwAv s m d K, rAv b K, .val (.int .u32 (k : Int))] (.val (.bool true)) := by
  (repeat ((conv => whnf); refine And.intro (by first | omega | exact ⟨by omega, trivial⟩ | exact ⟨by omega, by omega⟩ | rfl | exact And.intro rfl (by omega)) ?_)) <;> try (conv => whnf)
  refine And.intro (fun h1 => ?_) (fun h1 => ?_)
  · (repeat ((conv => whnf); refine And.intro (by first | omega | exact ⟨by omega, trivial⟩ | exact ⟨by omega, by omega⟩ | rfl | exact And.intro rfl (by omega)) ?_)) <;> try (conv => whnf)
    all_goals (repeat' first | exact True.intro | exact rfl | apply And.intro | omega)
  have hk0 : 0 < k := by simp at h1; omega
  have e := scale_eq s m d k hk0
  (repeat ((conv => whnf); refine And.intro (by first | omega | exact ⟨by omega, trivial⟩ | exact ⟨by omega, by omega⟩ | rfl | exact And.intro rfl (by omega)) ?_)) <;> try (conv => whnf)
  refine And.intro (fun h2 => ?_) (fun h2 => ?_)
  · (repeat ((conv => whnf); refine And.intro (by first | omega | exact ⟨by omega, trivial⟩ | exact ⟨by omega, by omega⟩ | rfl | exact And.intro rfl (by omega)) ?_)) <;> try (conv => whnf)
    all_goals (repeat' first | exact True.intro | exact rfl | apply And.intro | omega)
  (repeat ((conv => whnf); refine And.intro (by first | omega | exact ⟨by omega, trivial⟩ | exact ⟨by omega, by omega⟩ | rfl | exact And.intro rfl (by omega)) ?_)) <;> try (conv => whnf)
  refine And.intro (fun _ => ?_) (fun hh => absurd (congrArg (· + b) e.symm) (of_decide_eq_false hh))
  (repeat ((conv => whnf); refine And.intro (by first | omega | exact ⟨by omega, trivial⟩ | exact ⟨by omega, by omega⟩ | rfl | exact And.intro rfl (by omega)) ?_)) <;> try (conv => whnf)
  refine And.intro (fun _ => ?_) (fun hh => absurd (congrArg (· * b) e.symm) (of_decide_eq_false hh))
  (repeat ((conv => whnf); refine And.intro (by first | omega | exact ⟨by omega, trivial⟩ | exact ⟨by omega, by omega⟩ | rfl | exact And.intro rfl (by omega)) ?_)) <;> try (conv => whnf)
  refine And.intro (fun _ => ?_) (fun hh => absurd ((beq_iff_eq.2 (congrArg (cmpR · b) e.symm)).symm.trans hh) (by decide))
  (repeat ((conv => whnf); refine And.intro (by first | omega | exact ⟨by omega, trivial⟩ | exact ⟨by omega, by omega⟩ | rfl | exact And.intro rfl (by omega)) ?_)) <;> try (conv => whnf)
  refine And.intro (fun _ => ?_) (fun hh => absurd (congrArg Rat.floor e.symm) (of_decide_eq_false hh))
  (repeat ((conv => whnf); refine And.intro (by first | omega | exact ⟨by omega, trivial⟩ | exact ⟨by omega, by omega⟩ | rfl | exact And.intro rfl (by omega)) ?_)) <;> try (conv => whnf)
  exact congrArg Value.bool (beq_iff_eq.2 (congrArg (fun r => ((rsz r : Nat) : Int)) e.symm))

set_option maxRecDepth 100000 in
theorem rscaled_walk (p0 : Bool) (A0 : Option Addr) (xs0 : List Nat) (c0 : Nat) (B0 : Option Addr) (ys0 : List Nat) (d0 : Nat) (p1 : Bool) (A1 : Option Addr) (xs1 : List Nat) (c1 : Nat) (B1 : Option Addr) (ys1 : List Nat) (d1 : Nat) (a2 : Int) (w : World) (h0 : Lim w A0 c0 xs0) (g0 : Lim w B0 d0 ys0) (h1 : Lim w A1 c1 xs1) (g1 : Lim w B1 d1 ys1) (k0 : xs0.length ≤ 1048576) (l0 : ys0.length ≤ 1048576) (k1 : xs1.length ≤ 1048576) (l1 : ys1.length ≤ 1048576) (e2 : (Lit.int .u32 a2).wf = true) :
    Calls Try.prog 5 #[.agg #[.bool p0, .slice A0 xs0.length c0, .slice B0 ys0.length d0], .agg #[.bool p1, .slice A1 xs1.length c1, .slice B1 ys1.length d1], .int .u32 a2] w (RetB w true) := by
  obtain ⟨b1, b2⟩ := Go.bounds_u32 e2
  obtain ⟨k, rfl⟩ : ∃ k : Nat, a2 = k := ⟨a2.toNat, by omega⟩
  obtain ⟨s, m, d, hq, hx1, hx⟩ := rob_rw (rob_rat p0 h0 g0 k0 l0 (by decide))
  exact call_b (fn_ok (own := fun _ => False) (ctx_ok TT_ok [awake3_s, rRSign_s, rIMulL_s, RAdd_s, RMul_s, rREq_s, RCmp_s, RFloor_s, rIEq_s, RSize_s]) mixed_ok (fn := Try.f5) (by kernel_rfl) (rscaled_x s m d _ 1048576 k ⟨hx1, Nat.le_refl _⟩ (by omega)) (fun _ h => h.elim) (.cons hx (.cons (rob_rat p1 h1 g1 k1 l1 (by decide)) (.cons (fun _ _ => rfl) .nil))))
end Go.Proofs.Ytdcofnjekdkifaa
