/- Rounding: package rational and reference 03 by the executor. -/
import Derived.Test.YtcckdmjahnhamaaVQ
namespace Go.Proofs.Ytcckdmjahnhamaa
open Go.RowKit Gm Go.Vx

/-- the nearest integer, of two the even one -/
def rnd (q : Rat) : Int := if 0 < cmpR (2 * (q + -(q.floor : Rat))) 1 ∨ (cmpR (2 * (q + -(q.floor : Rat))) 1 = 0 ∧ q.floor % 2 = 1) then q.floor + 1 else q.floor
theorem rest_eq (N : Int) {D : Nat} (hD : D ≠ 0) : mkRat N D + -((mkRat N D).floor : Rat) = ((N % (D : Int) : Int) : Rat) / ((D : Int) : Rat) := by
  have h0 : ((D : Int) : Rat) ≠ 0 := fun e => hD (by have := Rat.intCast_eq_zero_iff.1 e; omega)
  rw [mkRat_floor hD, ← Rat.divInt_ofNat, Rat.divInt_eq_div]
  have := Int.mul_ediv_add_emod N D
  have e : (N : Rat) = ((D : Int) : Rat) * ((N / (D : Int) : Int) : Rat) + ((N % (D : Int) : Int) : Rat) := by rw [← Rat.intCast_mul, ← Rat.intCast_add, this]
  rw [e]
  grind
theorem cmp_rest (N : Int) {D : Nat} (hD : D ≠ 0) : cmpR (2 * (mkRat N D + -((mkRat N D).floor : Rat))) 1 = cmpI (N % (D : Int) + N % (D : Int)) D := by
  have hp : (0 : Rat) < ((D : Int) : Rat) := Rat.intCast_pos.2 (by omega)
  rw [rest_eq N hD]
  generalize N % (D : Int) = r
  have e : (2 : Rat) * ((r : Rat) / ((D : Int) : Rat)) = ((r + r : Int) : Rat) / ((D : Int) : Rat) := by rw [Rat.intCast_add]; grind
  rw [e]
  unfold cmpR cmpI
  have a1 : ((r + r : Int) : Rat) / ((D : Int) : Rat) < 1 ↔ r + r < (D : Int) := by rw [Rat.div_lt_iff hp, Rat.one_mul, Rat.intCast_lt_intCast]
  have a2 : 1 < ((r + r : Int) : Rat) / ((D : Int) : Rat) ↔ (D : Int) < r + r := by rw [Rat.lt_div_iff hp, Rat.one_mul, Rat.intCast_lt_intCast]
  simp only [a1, a2]
theorem limb_odd (n : Int) : (0 < (limbs n.natAbs).length ∧ ((limbs n.natAbs)[0]?.getD 0) % 2 = 1) ↔ n % 2 = 1 := by
  by_cases h : n.natAbs = 0
  · rw [h, limbs_zero]; simp; omega
  · rw [limbs_pos h]
    simp
    have : n.natAbs % Ba % 2 = n.natAbs % 2 := Nat.mod_mod_of_dvd _ (by decide)
    rw [this]; omega
theorem rob_sz {own : Nat → Prop} {w : World} {q : Rat} {K : Nat} {x : Value} (h : Rob own w (rAv q K) [x]) : Sz q K := by
  obtain ⟨us, e, hu⟩ := h.here
  obtain ⟨b, s, t, _, hi⟩ := cons_nil hu
  exact hi.sz
theorem rnd_near (q : Rat) : (q + -(rnd q : Rat)) * (q + -(rnd q : Rat)) ≤ mkRat 1 4 := by
  have e4 : mkRat 1 4 = 1 / 4 := by rw [Rat.mkRat_eq_div]; rfl
  have h0 := Rat.floor_le q
  have h1 : q - 1 < (q.floor : Rat) := Rat.lt_floor
  have key : -(1/2 : Rat) ≤ q + -(rnd q : Rat) ∧ q + -(rnd q : Rat) ≤ 1/2 := by
    unfold rnd
    split
    · rename_i h
      have h2 : 1 ≤ 2 * (q + -(q.floor : Rat)) := by
        rcases h with h | ⟨h, _⟩
        · exact Rat.le_of_lt (cmpR_gt.1 h)
        · exact Rat.not_lt.1 fun hh => by have := cmpR_lt.2 hh; omega
      rw [Rat.intCast_add]
      simp only [Rat.intCast_one] at *
      constructor <;> grind
    · rename_i h
      have h2 : 2 * (q + -(q.floor : Rat)) ≤ 1 := Rat.not_lt.1 fun hh => h (.inl (cmpR_gt.2 hh))
      constructor <;> grind
  rw [e4]
  have h5 := Rat.mul_nonneg (show (0 : Rat) ≤ 1/2 - (q + -(rnd q : Rat)) by grind) (show (0 : Rat) ≤ 1/2 + (q + -(rnd q : Rat)) by grind)
  grind
def awake3_s : PSpec Try.prog := ⟨8, sp0 (.kb true), sp0_ok fun _ w _ => show CallOk _ _ _ _ _ (.val (.bool true)) from CallOk.b (awake3_c w), by kernel_rfl⟩
set_option maxHeartbeats 1000000 in
set_option smartUnfolding false in
set_option maxRecDepth 100000 in
theorem RRound_x (s : Bool) (m d K : Nat) (hL : 1 ≤ K) (hK : K ≤ 1073741824) : fnOk ⟨TT, specsOf [floor_s, IAdd_s, ICmp_s, IFromInt_s]⟩ Try.f34 [rwAv s m d K] (zAv (rnd (mkRat (sg s m) d)) (K + 3)) := by
  have hD := pD_nz d
  have ef := mkRat_floor (n := pN s m d) hD
  have ec := cmp_rest (pN s m d) hD
  have e : rnd (mkRat (sg s m) d) = if 0 < cmpI (pN s m d % (pD d : Int) + pN s m d % (pD d : Int)) (pD d) ∨ (cmpI (pN s m d % (pD d : Int) + pN s m d % (pD d : Int)) (pD d) = 0 ∧ (pN s m d / (pD d : Int)) % 2 = 1) then pN s m d / (pD d : Int) + 1 else pN s m d / (pD d : Int) := by
    unfold rnd; rw [pND, ec, ef]
  have ho := limb_odd (pN s m d / (pD d : Int))
  have hoT : ∀ x : Nat, (((x : Int).tmod 2 == 1) = true) ↔ x % 2 = 1 := fun x => by rw [beq_iff_eq, Int.tmod_eq_emod_of_nonneg (by omega)]; omega
  (repeat ((conv => whnf); refine And.intro (by first | omega | exact ⟨by omega, trivial⟩ | exact ⟨by omega, by omega⟩ | rfl | exact And.intro rfl (by omega)) ?_)) <;> try (conv => whnf)
  refine And.intro (fun h1 => ?_) (fun h1 => ?_)
  · have h1' : 0 < (limbs (pN s m d / (pD d : Int)).natAbs).length := by have := of_decide_eq_true h1; omega
    (repeat ((conv => whnf); refine And.intro (by first | omega | exact ⟨by omega, trivial⟩ | exact ⟨by omega, by omega⟩ | rfl | exact And.intro rfl (by omega)) ?_)) <;> try (conv => whnf)
    refine And.intro (fun h2 => ?_) (fun h2 => ?_)
    · (repeat ((conv => whnf); refine And.intro (by first | omega | exact ⟨by omega, trivial⟩ | exact ⟨by omega, by omega⟩ | rfl | exact And.intro rfl (by omega)) ?_)) <;> try (conv => whnf)
      rw [if_pos (Or.inl (of_decide_eq_true h2))] at e
      first | exact True.intro | exact And.intro (And.intro e.symm (Or.inl (by omega))) True.intro
    have h2' := of_decide_eq_false h2
    (repeat ((conv => whnf); refine And.intro (by first | omega | exact ⟨by omega, trivial⟩ | exact ⟨by omega, by omega⟩ | rfl | exact And.intro rfl (by omega)) ?_)) <;> try (conv => whnf)
    refine And.intro (fun h3 => ?_) (fun h3 => ?_)
    · (repeat ((conv => whnf); refine And.intro (by first | omega | exact ⟨by omega, trivial⟩ | exact ⟨by omega, by omega⟩ | rfl | exact And.intro rfl (by omega)) ?_)) <;> try (conv => whnf)
      refine And.intro (fun h4 => ?_) (fun h4 => ?_)
      · (repeat ((conv => whnf); refine And.intro (by first | omega | exact ⟨by omega, trivial⟩ | exact ⟨by omega, by omega⟩ | rfl | exact And.intro rfl (by omega)) ?_)) <;> try (conv => whnf)
        rw [if_pos (Or.inr ⟨eq_of_beq h3, ho.1 ⟨h1', (hoT _).1 h4⟩⟩)] at e
        first | exact True.intro | exact And.intro (And.intro e.symm (Or.inl (by omega))) True.intro
      · (repeat ((conv => whnf); refine And.intro (by first | omega | exact ⟨by omega, trivial⟩ | exact ⟨by omega, by omega⟩ | rfl | exact And.intro rfl (by omega)) ?_)) <;> try (conv => whnf)
        rw [if_neg (fun hh => hh.elim (fun hh => h2' hh) (fun hh => absurd (h4.symm.trans ((hoT _).2 (ho.2 hh.2).2)) Bool.false_ne_true))] at e
        first | exact True.intro | exact And.intro (And.intro e.symm (Or.inl (by omega))) True.intro
    · (repeat ((conv => whnf); refine And.intro (by first | omega | exact ⟨by omega, trivial⟩ | exact ⟨by omega, by omega⟩ | rfl | exact And.intro rfl (by omega)) ?_)) <;> try (conv => whnf)
      rw [if_neg (fun hh => hh.elim (fun hh => h2' hh) (fun hh => absurd (h3.symm.trans (beq_iff_eq.2 hh.1)) Bool.false_ne_true))] at e
      first | exact True.intro | exact And.intro (And.intro e.symm (Or.inl (by omega))) True.intro
  · have h1' : ¬ 0 < (limbs (pN s m d / (pD d : Int)).natAbs).length := by have := of_decide_eq_false h1; omega
    (repeat ((conv => whnf); refine And.intro (by first | omega | exact ⟨by omega, trivial⟩ | exact ⟨by omega, by omega⟩ | rfl | exact And.intro rfl (by omega)) ?_)) <;> try (conv => whnf)
    refine And.intro (fun h2 => ?_) (fun h2 => ?_)
    · (repeat ((conv => whnf); refine And.intro (by first | omega | exact ⟨by omega, trivial⟩ | exact ⟨by omega, by omega⟩ | rfl | exact And.intro rfl (by omega)) ?_)) <;> try (conv => whnf)
      rw [if_pos (Or.inl (of_decide_eq_true h2))] at e
      first | exact True.intro | exact And.intro (And.intro e.symm (Or.inl (by omega))) True.intro
    have h2' := of_decide_eq_false h2
    (repeat ((conv => whnf); refine And.intro (by first | omega | exact ⟨by omega, trivial⟩ | exact ⟨by omega, by omega⟩ | rfl | exact And.intro rfl (by omega)) ?_)) <;> try (conv => whnf)
    refine And.intro (fun h3 => ?_) (fun h3 => ?_)
    · (repeat ((conv => whnf); refine And.intro (by first | omega | exact ⟨by omega, trivial⟩ | exact ⟨by omega, by omega⟩ | rfl | exact And.intro rfl (by omega)) ?_)) <;> try (conv => whnf)
      rw [if_neg (fun hh => hh.elim (fun hh => h2' hh) (fun hh => h1' (ho.2 hh.2).1))] at e
      first | exact True.intro | exact And.intro (And.intro e.symm (Or.inl (by omega))) True.intro
    · (repeat ((conv => whnf); refine And.intro (by first | omega | exact ⟨by omega, trivial⟩ | exact ⟨by omega, by omega⟩ | rfl | exact And.intro rfl (by omega)) ?_)) <;> try (conv => whnf)
      rw [if_neg (fun hh => hh.elim (fun hh => h2' hh) (fun hh => h1' (ho.2 hh.2).1))] at e
      first | exact True.intro | exact And.intro (And.intro e.symm (Or.inl (by omega))) True.intro

set_option maxRecDepth 100000 in
def RRound_s : PSpec Try.prog := ⟨34, spQ (fun _ K => K ≤ 1073741824) (fun q K => zAv (rnd q) (K + 3)), spQ_of fun own w x q K hown hx _ _ hp => by
    obtain ⟨s, a, d, rfl, h1, hx⟩ := rob_rw hx
    exact fn_ok (ctx_ok TT_ok [floor_s, IAdd_s, ICmp_s, IFromInt_s]) mixed_ok (fn := Try.f34) (by kernel_rfl) (RRound_x s a d K h1 hp) hown (.cons hx .nil), by kernel_rfl⟩

end Go.Proofs.Ytcckdmjahnhamaa
