/- Contracts of the reference of layer 1: the greatest common divisor. -/
import Derived.Test.YtkpchamgghhihaaRefH
import Derived.Test.YtkpchamgghhihaaNatM
namespace Go.Proofs.Ytkpchamgghhihaa
open Go.RowKit Gm

def GQ (K G : Nat) (w : World) (k : Nat) (a b : Value) (wr : World) : Prop :=
  ∃ (A B : Option Addr) (c d x y : Nat), y = k ∧ a = .slice A (limbs x).length c ∧ b = .slice B (limbs y).length d ∧ Own w.heap.size wr A c (limbs x) ∧ Own w.heap.size wr B d (limbs y) ∧ (limbs x).length ≤ K ∧ (limbs y).length ≤ K ∧ Hid (Nat.gcd x y = G) ∧ Below w.heap.size w wr

set_option maxHeartbeats 2000000 in
theorem rGCD_c (A B : Option Addr) (xs ys : List Nat) (c d K : Nat) (w : World) (ha : Lim w A c xs) (hb : Lim w B d ys) (hs : xs.length ≤ K) (ht : ys.length ≤ K) (hK : K ≤ 70368744177660) :
    Calls Try.prog 80 #[.slice A xs.length c, .slice B ys.length d] w (RetNat w (Nat.gcd (val xs) (val ys))) := by
  have la := limbs_length_le ha.lb
  have lb := limbs_length_le hb.lb
  obtain ⟨G, eG⟩ : ∃ G, Nat.gcd (val xs) (val ys) = G := ⟨_, rfl⟩
  rw [eG]
  have EG := Lib.hid eG
  clear eG
  go_enter Try.func80, Try.ntmps80
  go_wp2_with fail
  refine (rTrim_c _ _ _ _ ha (by omega)).mono ?_
  rintro e w1 ⟨A1, c1, rfl, r1, b1⟩
  go_wp2_with fail
  refine (rTrim_c _ _ _ _ (hb.below b1) (by omega)).mono ?_
  rintro e w2 ⟨A2, c2, rfl, r2, b2⟩
  have hst : GQ K G w (val ys) (.slice A1 (limbs (val xs)).length c1) (.slice A2 (limbs (val ys)).length c2) w2 := ⟨A1, A2, c1, c2, val xs, val ys, rfl, rfl, rfl, r1.below b2, r2.mono b1.size, by omega, by omega, EG, b1.trans (b2.mono b1.size)⟩
  clear r1 r2 b1 b2 ha hb
  go_wp2_with fail
  go_loopg [0, 1] (val ys) (fun k a b wr => GQ K G w k a b wr)
  case atStart => exact hst
  case round =>
    clear hst
    obtain ⟨A, B, c, d, x, y, rfl, rfl, rfl, hx, hy, hxK, hyK, hG, hbel⟩ := hrel
    rcases Nat.eq_zero_or_pos y with rfl | hy0
    · have HE := Lib.hid (show x = G by rw [← hG.out, Nat.gcd_zero_right])
      rw [limbs_zero]
      go_wp2_with fail
      go_ret
      rw [← HE.out]
      exact ⟨A, c, rfl, hx, hbel⟩
    · have lp : 0 < (limbs y).length := List.length_pos_iff.2 (fun e => by rw [limbs_eq_nil] at e; omega)
      go_wp2_with fail
      refine (rDivMod_c A B (limbs x) (limbs y) c d _ hx.lim hy.lim (by omega) (by omega) (by rw [val_limbs]; omega)).mono ?_
      rintro e w2 ⟨A1, c1, A2, c2, rfl, r1, r2, b2⟩
      rw [val_limbs, val_limbs] at r1 r2 ⊢
      have hmod := Nat.mod_lt x hy0
      have h2 := r2.mono (lo' := w.heap.size) hbel.size
      have hy2 := hy.below b2
      have hend := hbel.trans (b2.mono hbel.size)
      have lr : (limbs (x % y)).length ≤ K := Nat.le_trans (limbs_mono (Nat.le_of_lt hmod)) hyK
      clear r1 r2 b2
      go_wp2_with fail
      go_roundg (x % y)
      case measure => exact hmod
      case rel => exact ⟨B, A2, d, c2, y, x % y, rfl, rfl, rfl, hy2, h2, hyK, lr, Lib.hid (by rw [gcd_mod]; exact hG.out), hend⟩
theorem rGCD_n (A B : Option Addr) (xs ys : List Nat) (c d : Nat) (w : World) (m n s K L : Nat) (ha : Lim w A c xs) (hb : Lim w B d ys) (hs : xs.length ≤ K) (ht : ys.length ≤ L) (hm : val xs = m) (hn : val ys = n) (h : Nat.gcd m n = s) (hK : K ≤ 70368744177660) (hL : L ≤ 70368744177660) :
    Calls Try.prog 80 #[.slice A xs.length c, .slice B ys.length d] w (RetNat w s) := by
  subst hm hn h; exact rGCD_c A B xs ys c d (max K L) w ha hb (by omega) (by omega) (by omega)

theorem gcd_cop {a b : Nat} (h : 0 < Nat.gcd a b) : Nat.gcd (a / Nat.gcd a b) (b / Nat.gcd a b) = 1 := by
  rw [Nat.gcd_div (Nat.gcd_dvd_left a b) (Nat.gcd_dvd_right a b), Nat.div_self h]
theorem gcd_sz {m n s k l : Nat} (hm : (limbs m).length ≤ k) (hn : (limbs n).length ≤ k) (h : Nat.gcd m n = s) (hl : k ≤ l) : (limbs s).length ≤ l := by
  subst h
  rcases Nat.eq_zero_or_pos m with h0 | h0
  · subst h0; rw [Nat.gcd_zero_left]; omega
  · exact Nat.le_trans (limbs_mono (Nat.gcd_le_left n h0)) (by omega)
end Go.Proofs.Ytkpchamgghhihaa
