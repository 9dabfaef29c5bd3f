/- Contracts with named results: the references' differences and comparison; sizes. -/
import Derived.Test.YtkpchamgghhihaaNatN
namespace Go.Proofs.Ytkpchamgghhihaa
open Go.RowKit Gm

theorem cmpN_nonneg {m n : Nat} (h : n ≤ m) : 0 ≤ cmpN m n := by
  rcases Nat.lt_or_eq_of_le h with h | h
  · rw [cmpN_gt h]; omega
  · rw [cmpN_eq h.symm]; omega
theorem nmul_sz {m n s k l j : Nat} (hm : (limbs m).length ≤ k) (hn : (limbs n).length ≤ l) (h : m * n = s) (hk : k + l ≤ j) : (limbs s).length ≤ j := by
  subst h
  have := limbs_mul_le m n
  omega
section
variable (A B : Option Addr) (xs ys : List Nat) (c d : Nat) (w : World) (m n s t : Nat) (K L : Nat)
theorem rSubY_n (ha : Lim w A c xs) (hb : Lim w B d ys) (hs : xs.length ≤ K) (ht : ys.length ≤ L) (hm : val xs = m) (hn : val ys = n) (h : n ≤ m) (hr : m - n = s) (hK : K ≤ 70368744177664) (hL : L ≤ 70368744177664) :
    Calls Try.prog 111 #[.slice A xs.length c, .slice B ys.length d] w (RetNatOk w s) := by
  subst hm hn hr; exact rSub_ok A B xs ys c d w ha hb (by omega) (by omega) h
theorem rSubN_n (ha : Lim w A c xs) (hb : Lim w B d ys) (hs : xs.length ≤ K) (ht : ys.length ≤ L) (hm : val xs = m) (hn : val ys = n) (h : m < n) (hK : K ≤ 70368744177664) (hL : L ≤ 70368744177664) :
    Calls Try.prog 111 #[.slice A xs.length c, .slice B ys.length d] w (RetNoB w) := by
  subst hm hn; exact rSub_no A B xs ys c d w ha hb (by omega) (by omega) h
theorem rCompare_n (x : Int) (ha : Lim w A c xs) (hb : Lim w B d ys) (hs : xs.length ≤ K) (ht : ys.length ≤ L) (hm : val xs = m) (hn : val ys = n) (h : cmpN m n = x) (hK : K ≤ 70368744177664) (hL : L ≤ 70368744177664) :
    Calls Try.prog 123 #[.slice A xs.length c, .slice B ys.length d] w (RetI w x) := by
  subst hm hn h; exact rCompare_c A B xs ys c d w ha hb (by omega) (by omega)
end
end Go.Proofs.Ytkpchamgghhihaa
