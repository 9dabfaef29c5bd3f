/- Contracts of package integer and of its reference: division in full, with named results; the greatest common divisor. -/
import Derived.Test.YtkpchamgghhihaaRefK
namespace Go.Proofs.Ytkpchamgghhihaa
open Go.RowKit Gm

theorem rIDivMod_c (p q : Bool) (A B : Option Addr) (xs ys : List Nat) (c d : Nat) (w : World) (ha : Lim w A c xs) (hb : Lim w B d ys) (hs : xs.length ≤ 70368744177660) (ht : ys.length ≤ 70368744177660) (h0 : val ys ≠ 0) :
    Calls Try.prog 116 #[.agg #[.bool p, .slice A xs.length c], .agg #[.bool q, .slice B ys.length d]] w (RetDivI w (iv p xs / iv q ys) (iv p xs % iv q ys)) := by
  by_cases h : p = false ∨ val xs % val ys = 0
  · exact rIDivMod_plain p q A B xs ys c d w ha hb hs ht h0 h
  · obtain rfl : p = true := by cases p <;> simp_all
    exact rIDivMod_adj q A B xs ys c d w ha hb hs ht h0 (fun e => h (.inr e))

theorem iv_zero {q : Bool} {ys : List Nat} : iv q ys = 0 ↔ val ys = 0 := by unfold iv; cases q <;> simp

/-- what the division by 0 returns -/
def RetDivI0 (w : World) (e : Ending) (w' : World) : Prop := e = .returned (.tuple #[.agg #[.bool false, .slice none 0 0], .agg #[.bool false, .slice none 0 0], .bool false]) ∧ Below w.heap.size w w'

set_option maxHeartbeats 1000000 in
theorem IDivMod_zero (p q : Bool) (A B : Option Addr) (xs ys : List Nat) (c d : Nat) (w : World) (ha : Lim w A c xs) (hb : Lim w B d ys) (h0 : val ys = 0) :
    Calls Try.prog 26 #[.agg #[.bool p, .slice A xs.length c], .agg #[.bool q, .slice B ys.length d]] w (RetDivI0 w) := by
  go_enter Try.func26, Try.ntmps26
  go_wp2_with fail
  obtain ⟨W, hW, hbW, hsz, k, kr, ks⟩ := four_boxes w p q (.slice A xs.length c) (.slice B ys.length d)
  rw [hW]
  clear hW
  refine (DivMod_zero A B xs ys c d W (ha.below hbW) (hb.below hbW) h0).mono ?_
  rintro e w1 ⟨rfl, rfl⟩
  obtain ⟨g1, g2, g3, g4⟩ := kr
  obtain ⟨g5, g6, g7, g8⟩ := ks
  have hfin := below_put2 (below_put2 hbW (show w.heap.size ≤ w.heap.size + 1 + 1 by omega) (.bool false) (.slice none 0 0)) (show w.heap.size ≤ w.heap.size + 1 + 1 + 1 by omega) (.bool false) (.slice none 0 0)
  clear k
  go_wp2
  exact bodyPost_ret (v := .tuple #[.agg #[.bool false, .slice none 0 0], .agg #[.bool false, .slice none 0 0], .bool false]) (by simp [results, Try.results26, go_sem, g1, g2, g5, g6]) rfl ⟨rfl, hfin⟩

section
variable (p q : Bool) (A B : Option Addr) (xs ys : List Nat) (c d : Nat) (w : World) (m n s t : Int) (K L : Nat)
theorem IDivMod_n (ha : Lim w A c xs) (hb : Lim w B d ys) (hs : xs.length ≤ K) (ht : ys.length ≤ L) (hm : iv p xs = m) (hn : iv q ys = n) (h0 : n ≠ 0) (hq : m / n = s) (hr : m % n = t) (hK : K < 70368744177664) (hL : L ≤ 70368744177664) :
    Calls Try.prog 26 #[.agg #[.bool p, .slice A xs.length c], .agg #[.bool q, .slice B ys.length d]] w (RetDivI w s t) := by
  subst hm hn hq hr
  have hz : val ys ≠ 0 := fun e => h0 (iv_zero.2 e)
  exact IDivMod_c p q A B xs ys c d w ha hb (by omega) (by omega) hz (fun W hW => DivMod_c A B xs ys c d W (ha.below hW) (hb.below hW) (by omega) hz)
theorem IDivMod0_n (ha : Lim w A c xs) (hb : Lim w B d ys) (hn : iv q ys = n) (h0 : n = 0) :
    Calls Try.prog 26 #[.agg #[.bool p, .slice A xs.length c], .agg #[.bool q, .slice B ys.length d]] w (RetDivI0 w) :=
  IDivMod_zero p q A B xs ys c d w ha hb (iv_zero.1 (hn.trans h0))
theorem rIDivMod_n (ha : Lim w A c xs) (hb : Lim w B d ys) (hs : xs.length ≤ K) (ht : ys.length ≤ L) (hm : iv p xs = m) (hn : iv q ys = n) (h0 : n ≠ 0) (hq : m / n = s) (hr : m % n = t) (hK : K ≤ 70368744177660) (hL : L ≤ 70368744177660) :
    Calls Try.prog 116 #[.agg #[.bool p, .slice A xs.length c], .agg #[.bool q, .slice B ys.length d]] w (RetDivI w s t) := by
  subst hm hn hq hr
  exact rIDivMod_c p q A B xs ys c d w ha hb (by omega) (by omega) (fun e => h0 (iv_zero.2 e))
theorem rIDivMod0_n (hb : Lim w B d ys) (ht : ys.length ≤ L) (hn : iv q ys = n) (h0 : n = 0) (hL : L ≤ 70368744177664) :
    Calls Try.prog 116 #[.agg #[.bool p, .slice A xs.length c], .agg #[.bool q, .slice B ys.length d]] w (RetDivI0 w) :=
  rIDivMod_zero p q A B xs ys c d w hb (by omega) (iv_zero.1 (hn.trans h0))
end

set_option maxHeartbeats 1000000 in
theorem IGCD_c (p q : Bool) (A B : Option Addr) (xs ys : List Nat) (c d : Nat) (w : World) (ha : Lim w A c xs) (hb : Lim w B d ys) (hs : xs.length ≤ 70368744177660) (ht : ys.length ≤ 70368744177660) :
    Calls Try.prog 27 #[.agg #[.bool p, .slice A xs.length c], .agg #[.bool q, .slice B ys.length d]] w (RetInt w ((Nat.gcd (val xs) (val ys) : Nat) : Int)) := by
  go_enter Try.func27, Try.ntmps27
  go_wp2_with fail
  obtain ⟨W, hW, hbW, hsz, k, kr⟩ := three_boxes w p q (.slice A xs.length c) (.slice B ys.length d)
  rw [hW]
  clear hW
  have hz : w.heap.size + 3 ≤ W.heap.size := by omega
  clear hsz k
  refine (GCD_c A B xs ys c d W (ha.below hbW) (hb.below hbW) hs ht).mono ?_
  rintro e w1 ⟨A1, c1, rfl, r3, bw1⟩
  go_wp2_with fail
  refine (signed_c false A1 _ c1 _).mono ?_
  rintro e w2 ⟨rfl, bw2⟩
  obtain ⟨m1, m2, m3, m4⟩ := keepR (N := w.heap.size + 1 + 1) bw2 (Nat.lt_of_lt_of_le (show w.heap.size + 1 + 1 < W.heap.size by omega) bw1.size) (keepR bw1 (show w.heap.size + 1 + 1 < W.heap.size by omega) kr)
  have hbw : Below w.heap.size w w2 := (hbW.trans (bw1.mono (show w.heap.size ≤ W.heap.size by omega))).trans (bw2.mono (Nat.le_trans (show w.heap.size ≤ W.heap.size by omega) bw1.size))
  have hown := ((r3.below bw2).put2 (N := w.heap.size + 1 + 1) (show w.heap.size + 1 + 1 < W.heap.size by omega) (.bool (false && decide (0 < (limbs (Nat.gcd (val xs) (val ys))).length))) (.slice A1 (limbs (Nat.gcd (val xs) (val ys))).length c1)).mono (show w.heap.size ≤ W.heap.size by omega)
  have hret := ret_signed (n := ((Nat.gcd (val xs) (val ys) : Nat) : Int)) (p := false) rfl hown (below_put2 hbw (by omega) _ _)
  rw [Bool.false_and] at hret
  clear hown hbw r3 bw1 bw2 hbW kr
  go_wp2
  exact bodyPost_ret (v := .agg #[.bool false, .slice A1 (limbs (Nat.gcd (val xs) (val ys))).length c1]) (by simp [results, Try.results27, go_sem, m1, m2]) rfl hret
set_option maxHeartbeats 1000000 in
theorem rIGCD_c (p q : Bool) (A B : Option Addr) (xs ys : List Nat) (c d : Nat) (w : World) (ha : Lim w A c xs) (hb : Lim w B d ys) (hs : xs.length ≤ 70368744177660) (ht : ys.length ≤ 70368744177660) :
    Calls Try.prog 32 #[.agg #[.bool p, .slice A xs.length c], .agg #[.bool q, .slice B ys.length d]] w (RetInt w ((Nat.gcd (val xs) (val ys) : Nat) : Int)) := by
  have hg : (limbs (Nat.gcd (val xs) (val ys))).length ≤ 70368744177664 := gcd_sz (k := 70368744177660) (Nat.le_trans (limbs_length_le ha.lb) hs) (Nat.le_trans (limbs_length_le hb.lb) ht) rfl (by omega)
  obtain ⟨G, eG⟩ : ∃ G, Nat.gcd (val xs) (val ys) = G := ⟨_, rfl⟩
  rw [eG] at hg ⊢
  have EG := Lib.hid eG
  clear eG
  go_enter Try.func32, Try.ntmps32
  go_wp2_with fail
  obtain ⟨W, hW, hbW, hsz, k, kr⟩ := three_boxes w p q (.slice A xs.length c) (.slice B ys.length d)
  rw [hW]
  clear hW
  have hz : w.heap.size + 3 ≤ W.heap.size := by omega
  clear hsz k
  refine (rGCD_c A B xs ys c d 70368744177660 W (ha.below hbW) (hb.below hbW) hs ht (Nat.le_refl _)).mono ?_
  rintro e w1 ⟨A1, c1, rfl, r3, bw1⟩
  rw [EG.out] at r3 ⊢
  go_wp2_with fail
  refine (Make_k false A1 G c1 _ r3.lim hg).mono ?_
  rintro e w2 ⟨A2, c2, rfl, r4, bw2⟩
  obtain ⟨m1, m2, m3, m4⟩ := keepR (N := w.heap.size + 1 + 1) bw2 (Nat.lt_of_lt_of_le (show w.heap.size + 1 + 1 < W.heap.size by omega) bw1.size) (keepR bw1 (show w.heap.size + 1 + 1 < W.heap.size by omega) kr)
  have hbw : Below w.heap.size w w2 := (hbW.trans (bw1.mono (show w.heap.size ≤ W.heap.size by omega))).trans (bw2.mono (Nat.le_trans (show w.heap.size ≤ W.heap.size by omega) bw1.size))
  have hlw : w.heap.size + 1 + 1 < w1.heap.size := Nat.lt_of_lt_of_le (show w.heap.size + 1 + 1 < W.heap.size by omega) bw1.size
  have e0 : decide (mkI false G < 0) = false := by simp [mkI]
  rw [e0]
  clear e0
  have hret : RetInt w ((G : Nat) : Int) (.returned (.agg #[.bool false, .slice A2 (limbs G).length c2]))
      ((w2.setCell ⟨w.heap.size + 1 + 1, 0, none⟩ (.bool false)).setCell ⟨w.heap.size + 1 + 1, 1, none⟩ (.slice A2 (limbs G).length c2)) :=
    ⟨A2, c2, by rw [Int.natAbs_natCast, show decide (((G : Nat) : Int) < 0) = false by rw [decide_eq_false_iff_not]; omega], by rw [Int.natAbs_natCast]; exact (r4.put2 hlw _ _).mono (by omega), below_put2 hbw (by omega) _ _⟩
  clear hbw r3 r4 bw1 bw2 hbW kr
  go_wp2
  exact bodyPost_ret (v := .agg #[.bool false, .slice A2 (limbs G).length c2]) (by simp [results, Try.results32, go_sem, m1, m2]) rfl hret
section
variable (p q : Bool) (A B : Option Addr) (xs ys : List Nat) (c d : Nat) (w : World) (m n s : Int) (K L : Nat)
theorem IGCD_n (ha : Lim w A c xs) (hb : Lim w B d ys) (hs : xs.length ≤ K) (ht : ys.length ≤ L) (hm : iv p xs = m) (hn : iv q ys = n) (h : ((Nat.gcd m.natAbs n.natAbs : Nat) : Int) = s) (hK : K ≤ 70368744177660) (hL : L ≤ 70368744177660) :
    Calls Try.prog 27 #[.agg #[.bool p, .slice A xs.length c], .agg #[.bool q, .slice B ys.length d]] w (RetInt w s) := by
  subst hm hn h
  rw [iv_natAbs, iv_natAbs]
  exact IGCD_c p q A B xs ys c d w ha hb (by omega) (by omega)
theorem rIGCD_n (ha : Lim w A c xs) (hb : Lim w B d ys) (hs : xs.length ≤ K) (ht : ys.length ≤ L) (hm : iv p xs = m) (hn : iv q ys = n) (h : ((Nat.gcd m.natAbs n.natAbs : Nat) : Int) = s) (hK : K ≤ 70368744177660) (hL : L ≤ 70368744177660) :
    Calls Try.prog 32 #[.agg #[.bool p, .slice A xs.length c], .agg #[.bool q, .slice B ys.length d]] w (RetInt w s) := by
  subst hm hn h
  rw [iv_natAbs, iv_natAbs]
  exact rIGCD_c p q A B xs ys c d w ha hb (by omega) (by omega)
end
end Go.Proofs.Ytkpchamgghhihaa
