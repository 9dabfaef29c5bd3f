/- Contracts with named results, for the walks of the statements: integers. -/
import Derived.Test.YtkpchamgghhihaaIntD
import Derived.Test.YtkpchamgghhihaaLawIO
namespace Go.Proofs.Ytkpchamgghhihaa
open Go.RowKit Gm

set_option maxHeartbeats 400000 in
theorem rNorm_c (p : Bool) (A : Option Addr) (xs : List Nat) (c : Nat) (w : World) (ha : Lim w A c xs) (hs : xs.length ≤ 70368744177664) :
    Calls Try.prog 108 #[.agg #[.bool p, .slice A xs.length c]] w (RetInt w (iv p xs)) := by
  go_enter Try.func108, Try.ntmps108
  go_wp2_with fail
  obtain ⟨W, hW, hbW, hsz, k, kr⟩ := boxes_ar w p (.slice A xs.length c)
  rw [hW]
  clear hW
  have hz : w.heap.size + 2 ≤ W.heap.size := by omega
  clear hsz
  refine (Make_c p A xs c _ (ha.below hbW) hs).mono ?_
  rintro e w1 ⟨A1, c1, rfl, r3, bw1⟩
  obtain ⟨m1, m2, m3, m4⟩ := keepR bw1 (show w.heap.size + 1 < W.heap.size by omega) kr
  have hret : RetInt w (iv p xs) (.returned (.agg #[.bool (decide (iv p xs < 0)), .slice A1 (limbs (iv p xs).natAbs).length c1]))
      ((w1.setCell ⟨w.heap.size + 1, 0, none⟩ (.bool (decide (iv p xs < 0)))).setCell ⟨w.heap.size + 1, 1, none⟩ (.slice A1 (limbs (iv p xs).natAbs).length c1)) :=
    ⟨A1, c1, rfl, (r3.put2 (show w.heap.size + 1 < W.heap.size by omega) _ _).mono (show w.heap.size ≤ W.heap.size by omega), below_put2 (hbW.trans (bw1.mono (show w.heap.size ≤ W.heap.size by omega))) (by omega) _ _⟩
  clear r3 bw1 hbW kr k
  generalize iv p xs = z at *
  go_wp2
  exact bodyPost_ret (v := .agg #[.bool (decide (z < 0)), .slice A1 (limbs z.natAbs).length c1]) (by simp [results, Try.results108, go_sem, m1, m2]) rfl hret

section
variable (p q : Bool) (A B : Option Addr) (xs ys : List Nat) (c d : Nat) (w : World) (m n s : Int) (K L : Nat)
theorem IAdd_n (ha : Lim w A c xs) (hb : Lim w B d ys) (hs : xs.length ≤ K) (ht : ys.length ≤ L) (hm : iv p xs = m) (hn : iv q ys = n) (h : m + n = s) (hK : K < 70368744177664) (hL : L < 70368744177664) :
    Calls Try.prog 37 #[.agg #[.bool p, .slice A xs.length c], .agg #[.bool q, .slice B ys.length d]] w (RetInt w s) := by
  have k := IAdd_c p q A B xs ys c d w ha hb (by omega) (by omega)
  rw [hm, hn, h] at k; exact k
theorem ISub_n (ha : Lim w A c xs) (hb : Lim w B d ys) (hs : xs.length ≤ K) (ht : ys.length ≤ L) (hm : iv p xs = m) (hn : iv q ys = n) (h : m - n = s) (hK : K < 70368744177664) (hL : L < 70368744177664) :
    Calls Try.prog 38 #[.agg #[.bool p, .slice A xs.length c], .agg #[.bool q, .slice B ys.length d]] w (RetInt w s) := by
  have k := ISub_c p q A B xs ys c d w ha hb (by omega) (by omega)
  rw [hm, hn, h] at k; exact k
theorem IMul_n (ha : Lim w A c xs) (hb : Lim w B d ys) (hs : xs.length ≤ K) (ht : ys.length ≤ L) (hm : iv p xs = m) (hn : iv q ys = n) (h : m * n = s) (hK : K + L ≤ 70368744177664) :
    Calls Try.prog 25 #[.agg #[.bool p, .slice A xs.length c], .agg #[.bool q, .slice B ys.length d]] w (RetInt w s) := by
  have k := IMul_c p q A B xs ys c d w ha hb (by omega)
  rw [hm, hn, h] at k; exact k
theorem INeg_n (ha : Lim w A c xs) (hs : xs.length ≤ K) (hm : iv p xs = m) (h : -m = s) (hK : K ≤ 70368744177664) :
    Calls Try.prog 35 #[.agg #[.bool p, .slice A xs.length c]] w (RetInt w s) := by
  have k := INeg_c p A xs c w ha (by omega)
  rw [hm, h] at k; exact k
theorem rNorm_n (ha : Lim w A c xs) (hs : xs.length ≤ K) (hm : iv p xs = s) (hK : K ≤ 70368744177664) :
    Calls Try.prog 108 #[.agg #[.bool p, .slice A xs.length c]] w (RetInt w s) := by
  have k := rNorm_c p A xs c w ha (by omega)
  rw [hm] at k; exact k
end
theorem rFromInt_n (v s : Int) (w : World) (h1 : -9223372036854775808 ≤ v) (h2 : v ≤ 9223372036854775807) (h : v = s) : Calls Try.prog 77 #[.int .i64 v] w (RetInt w s) := by
  subst h; exact rFromInt_c v w h1 h2
/-- sizes -/
theorem isum_sz {m n s : Int} {k l j : Nat} (hm : (limbs m.natAbs).length ≤ k) (hn : (limbs n.natAbs).length ≤ l) (h : m + n = s) (hk : k + 1 ≤ j) (hl : l + 1 ≤ j) : (limbs s.natAbs).length ≤ j := by
  subst h
  have : (limbs (m + n).natAbs).length ≤ (j - 1) + 1 := isum_le (by omega) (by omega)
  omega
theorem isub_sz {m n s : Int} {k l j : Nat} (hm : (limbs m.natAbs).length ≤ k) (hn : (limbs n.natAbs).length ≤ l) (h : m - n = s) (hk : k + 1 ≤ j) (hl : l + 1 ≤ j) : (limbs s.natAbs).length ≤ j := by
  subst h
  have : (limbs (m - n).natAbs).length ≤ (j - 1) + 1 := isub_le (by omega) (by omega)
  omega
theorem limbs_mul_le (a b : Nat) : (limbs (a * b)).length ≤ (limbs a).length + (limbs b).length := by
  have h1 := val_lt (Lb_limbs a)
  have h2 := val_lt (Lb_limbs b)
  rw [val_limbs] at h1 h2
  apply limbs_length_lt
  rw [Nat.pow_add]
  rcases Nat.eq_zero_or_pos (Ba ^ (limbs b).length) with h | h
  · omega
  · exact Nat.mul_lt_mul_of_lt_of_le h1 (Nat.le_of_lt h2) h
theorem imul_sz {m n s : Int} {k l j : Nat} (hm : (limbs m.natAbs).length ≤ k) (hn : (limbs n.natAbs).length ≤ l) (h : m * n = s) (hk : k + l ≤ j) : (limbs s.natAbs).length ≤ j := by
  subst h
  rw [Int.natAbs_mul]
  have := limbs_mul_le m.natAbs n.natAbs
  omega
theorem ineg_sz {m s : Int} {k : Nat} (hm : (limbs m.natAbs).length ≤ k) (h : -m = s) : (limbs s.natAbs).length ≤ k := by
  subst h; rw [Int.natAbs_neg]; exact hm
end Go.Proofs.Ytkpchamgghhihaa
