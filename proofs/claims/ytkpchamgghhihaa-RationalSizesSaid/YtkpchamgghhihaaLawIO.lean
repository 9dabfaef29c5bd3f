/- The walk of the statement IntegerOrder: it returns true. -/
import Derived.Test.YtkpchamgghhihaaAwake2
namespace Go.Proofs.Ytkpchamgghhihaa
open Go.RowKit Gm

theorem limbs_add_le {a b k : Nat} (ha : (limbs a).length ≤ k) (hb : (limbs b).length ≤ k) : (limbs (a + b)).length ≤ k + 1 := by
  have h1 := val_lt (Lb_limbs a)
  have h2 := val_lt (Lb_limbs b)
  rw [val_limbs] at h1 h2
  have h3 : Ba ^ (limbs a).length ≤ Ba ^ k := Nat.pow_le_pow_right Ba_pos ha
  have h4 : Ba ^ (limbs b).length ≤ Ba ^ k := Nat.pow_le_pow_right Ba_pos hb
  have h5 : Ba ^ (k + 1) = Ba ^ k * Ba := Nat.pow_succ ..
  have h6 : Ba ^ k * 2 ≤ Ba ^ k * Ba := Nat.mul_le_mul_left _ (by decide)
  exact limbs_length_lt (by omega)
theorem iv_natAbs (p : Bool) (xs : List Nat) : (iv p xs).natAbs = val xs := mkI_natAbs p (val xs)
/-- the size of a sum -/
theorem isum_le {m n : Int} {k : Nat} (hm : (limbs m.natAbs).length ≤ k) (hn : (limbs n.natAbs).length ≤ k) : (limbs (m + n).natAbs).length ≤ k + 1 :=
  Nat.le_trans (limbs_mono (Int.natAbs_add_le m n)) (limbs_add_le hm hn)
theorem isub_le {m n : Int} {k : Nat} (hm : (limbs m.natAbs).length ≤ k) (hn : (limbs n.natAbs).length ≤ k) : (limbs (m - n).natAbs).length ≤ k + 1 := by
  rw [Int.sub_eq_add_neg]
  exact isum_le hm (by rw [Int.natAbs_neg]; exact hn)
theorem iv_len {p : Bool} {xs : List Nat} {k : Nat} (h : Lb xs) (hl : xs.length ≤ k) : (limbs (iv p xs).natAbs).length ≤ k := by
  rw [iv_natAbs]; exact Nat.le_trans (limbs_length_le h) hl

/-- contracts at canonical arguments, with a named result -/
theorem Sign_k (n r : Int) (A : Option Addr) (c : Nat) (w : World) (h : Lim w A c (limbs n.natAbs)) (hr : sgn n = r) :
    Calls Try.prog 28 #[.agg #[.bool (decide (n < 0)), .slice A (limbs n.natAbs).length c]] w (RetI w r) := by
  have k := Sign_c (decide (n < 0)) A (limbs n.natAbs) c w h
  rw [iv_canon, hr] at k
  exact k
theorem ICompare_k (m n r : Int) (A B : Option Addr) (c d : Nat) (w : World) (ha : Lim w A c (limbs m.natAbs)) (hb : Lim w B d (limbs n.natAbs)) (hr : cmpI m n = r) :
    Calls Try.prog 99 #[.agg #[.bool (decide (m < 0)), .slice A (limbs m.natAbs).length c], .agg #[.bool (decide (n < 0)), .slice B (limbs n.natAbs).length d]] w (RetI w r) := by
  have k := ICompare_c (decide (m < 0)) (decide (n < 0)) A B (limbs m.natAbs) (limbs n.natAbs) c d w ha hb
  rw [iv_canon, iv_canon, hr] at k
  exact k
theorem ICompare_e (p q : Bool) (r : Int) (A B : Option Addr) (xs ys : List Nat) (c d : Nat) (w : World) (ha : Lim w A c xs) (hb : Lim w B d ys) (hr : cmpI (iv p xs) (iv q ys) = r) :
    Calls Try.prog 99 #[.agg #[.bool p, .slice A xs.length c], .agg #[.bool q, .slice B ys.length d]] w (RetI w r) := by
  have k := ICompare_c p q A B xs ys c d w ha hb
  rw [hr] at k
  exact k

theorem cmpI_sgn (m n : Int) : sgn (m - n) = cmpI m n := by unfold sgn cmpI; split <;> split <;> (try split) <;> (try split) <;> omega
theorem cmpI_flip (m n : Int) : cmpI n m = - cmpI m n := by unfold cmpI; split <;> split <;> (try split) <;> (try split) <;> omega
theorem cmpI_shift (m n k : Int) : cmpI (m + k) (n + k) = cmpI m n := by unfold cmpI; split <;> split <;> (try split) <;> (try split) <;> omega
theorem cmpI_bd (m n : Int) : -1 ≤ cmpI m n ∧ cmpI m n ≤ 1 := by unfold cmpI; split <;> (try split) <;> omega
theorem cmpI_trans {m n k : Int} (h1 : ¬ 0 < cmpI m n) (h2 : ¬ 0 < cmpI n k) : cmpI m k ≤ 0 := by
  unfold cmpI at *; split <;> (try split) <;> (repeat' split at h1) <;> (repeat' split at h2) <;> omega

/-- three boxed integers -/
theorem boxes3 (w : World) (p q r : Bool) (u v t : Value) :
    ∃ W, ((w.alloc (.cells #[.bool p, u] 38)).alloc (.cells #[.bool q, v] 38)).alloc (.cells #[.bool r, t] 38) = W ∧ Below w.heap.size w W ∧ W.heap.size = w.heap.size + 3 ∧
      W.cell? ⟨w.heap.size, 0, none⟩ = some (.bool p) ∧ W.cell? ⟨w.heap.size, 1, none⟩ = some u ∧ W.cell? ⟨w.heap.size + 1, 0, none⟩ = some (.bool q) ∧ W.cell? ⟨w.heap.size + 1, 1, none⟩ = some v ∧
      W.cell? ⟨w.heap.size + 1 + 1, 0, none⟩ = some (.bool r) ∧ W.cell? ⟨w.heap.size + 1 + 1, 1, none⟩ = some t := by
  refine ⟨_, rfl, (((Below.refl _ _).alloc (Nat.le_refl _) _).alloc (by simp) _).alloc (by simp; omega) _, by simp, ?_⟩
  refine ⟨?_, ?_, ?_, ?_, ?_, ?_⟩ <;> go_simp

end Go.Proofs.Ytkpchamgghhihaa
