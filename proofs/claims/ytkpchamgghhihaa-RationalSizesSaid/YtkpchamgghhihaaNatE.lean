/- Contracts of package natural: division of small numbers. -/
import Derived.Test.YtkpchamgghhihaaNatD
namespace Go.Proofs.Ytkpchamgghhihaa
open Go.RowKit Gm

/-- what the division returns -/
def RetDiv (w : World) (q r : Nat) (e : Ending) (w' : World) : Prop :=
  ∃ A c B d, e = .returned (.tuple #[.slice A (limbs q).length c, .slice B (limbs r).length d, .bool true]) ∧ Own w.heap.size w' A c (limbs q) ∧ Own w.heap.size w' B d (limbs r) ∧ Below w.heap.size w w'

set_option maxHeartbeats 1000000 in
theorem DivMod_small (A B : Option Addr) (xs ys : List Nat) (c d : Nat) (w : World) (ha : Lim w A c xs) (hb : Lim w B d ys)
    (h0 : val ys ≠ 0) (hge : val ys ≤ val xs) (hsm : val xs < Ba * Ba) :
    Calls Try.prog 14 #[.slice A xs.length c, .slice B ys.length d] w (RetDiv w (val xs / val ys) (val xs % val ys)) := by
  have hc := ha.cap
  have hm := ha.max
  have hd := hb.cap
  have hn := hb.max
  go_enter Try.func14, Try.ntmps14
  go_wp2_with fail
  refine (cut_c _ _ _ _ ha).mono ?_
  rintro e w' ⟨rfl, rfl⟩
  go_wp2_with fail
  refine (cut_c _ _ _ _ hb).mono ?_
  rintro e w' ⟨rfl, rfl⟩
  have la := limbs_length_le ha.lb
  have lb := limbs_length_le hb.lb
  have l2 := limbs_two.2 hsm
  have l3 := limbs_mono hge
  have lne : (((limbs (val ys)).length : Int) == 0) = false := by
    have : (limbs (val ys)).length ≠ 0 := fun h => h0 (limbs_eq_nil.1 (List.eq_nil_of_length_eq_zero h))
    simp; intro h; exact h0 (limbs_eq_nil.1 h)
  have ec : 0 ≤ cmpN (val (limbs (val xs))) (val (limbs (val ys))) := by
    rw [val_limbs, val_limbs]
    rcases Nat.lt_or_eq_of_le hge with h | h
    · rw [cmpN_gt h]; omega
    · rw [cmpN_eq h.symm]; omega
  go_wp2_with fail
  refine (Compare_c _ _ _ _ _ _ _ ha.cut hb.cut).mono ?_
  rintro e w' ⟨rfl, n, rfl⟩
  generalize cmpN (val (limbs (val xs))) (val (limbs (val ys))) = z at *
  have ec' : ¬ z < 0 := by omega
  go_wp2_with fail
  refine (word_c _ _ _ (w.drewN n) (ha.cut.drewN n) l2).mono ?_
  rintro e w' ⟨rfl, rfl⟩
  go_wp2_with fail
  refine (word_c _ _ _ (w.drewN n) (hb.cut.drewN n) (by omega)).mono ?_
  rintro e w' ⟨rfl, rfl⟩
  rw [val_limbs, val_limbs]
  have hB : Ba * Ba = 18446744073709551616 := by decide
  rw [hB] at hsm
  clear hB
  have hne : ((val ys : Int) == 0) = false := by simp; omega
  have hpos : (0 : Int) < (val ys : Int) := by omega
  have hql : val xs / val ys < Ba * Ba := Nat.lt_of_le_of_lt (Nat.div_le_self _ _) (by have hB : Ba * Ba = 18446744073709551616 := by decide
                                                                                       omega)
  have hrl : val xs % val ys < Ba * Ba := Nat.lt_of_le_of_lt (Nat.mod_le _ _) (by have hB : Ba * Ba = 18446744073709551616 := by decide
                                                                                  omega)
  obtain ⟨q, eq⟩ : ∃ q, val xs / val ys = q := ⟨_, rfl⟩
  obtain ⟨r, er⟩ : ∃ r, val xs % val ys = r := ⟨_, rfl⟩
  rw [eq] at hql
  rw [er] at hrl
  have e1 : IntKind.u64.wrap ((val xs : Int) / (val ys : Int)) = ((q : Nat) : Int) := by
    rw [IntKind.wrap_u64, ← Int.natCast_ediv, eq]
    have hB : Ba * Ba = 18446744073709551616 := by decide
    omega
  have e2 : ((val xs : Int)).tmod (val ys : Int) = ((r : Nat) : Int) := by
    rw [Int.tmod_eq_emod_of_nonneg (by omega), ← er]; rfl
  have EQ := Lib.hid eq
  have ER := Lib.hid er
  clear eq er
  go_wp2_with fail
  go_region_with (first
    | (go_at_call_of 68 ((q : Nat) : Int); refine (FromUint64_c q _ hql).mono ?_; rintro e w1 ⟨A1, c1, rfl, p3, p4⟩)
    | (go_at_call_of 68 ((r : Nat) : Int); refine (FromUint64_c r _ hrl).mono ?_; rintro e w2 ⟨A2, c2, rfl, q3, q4⟩))
  go_wp2
  go_ret3
  rw [EQ.out, ER.out]
  exact ⟨A1, c1, A2, c2, rfl, p3.below q4, q3.mono p4.size, ((below_drewN (Below.refl _ w) (n + 1)).trans p4).trans (q4.mono p4.size)⟩
end Go.Proofs.Ytkpchamgghhihaa
