/- Contracts of the reference of layer 2: canonical integers, equality, numbers of the language. -/
import Derived.Test.YtkpchamgghhihaaIntB
import Derived.Test.YtkpchamgghhihaaRefA
namespace Go.Proofs.Ytkpchamgghhihaa
open Go.RowKit Gm

/-- the box of the result -/
theorem one_box (w : World) (u v : Value) :
    ∃ W, w.alloc (.cells #[u, v] 38) = W ∧ Below w.heap.size w W ∧ W.heap.size = w.heap.size + 1 ∧
      (W.cell? ⟨w.heap.size, 0, none⟩ = some u ∧ W.cell? ⟨w.heap.size, 1, none⟩ = some v ∧ W.frozen? ⟨w.heap.size, 0, none⟩ = false ∧ W.frozen? ⟨w.heap.size, 1, none⟩ = false) := by
  refine ⟨_, rfl, (Below.refl _ _).alloc (Nat.le_refl _) _, by simp, ?_⟩
  refine ⟨?_, ?_, ?_, ?_⟩ <;> go_simp

set_option maxHeartbeats 400000 in
theorem Make_c (p : Bool) (A : Option Addr) (xs : List Nat) (c : Nat) (w : World) (h : Lim w A c xs) (hs : xs.length ≤ 70368744177664) :
    Calls Try.prog 79 #[.bool p, .slice A xs.length c] w (RetInt w (iv p xs)) := by
  go_enter Try.func79, Try.ntmps79
  go_wp2_with fail
  obtain ⟨W, hW, hbW, hsz, kr⟩ := one_box w (.bool false) (.slice none 0 0)
  rw [hW]
  clear hW
  have hz : w.heap.size + 1 ≤ W.heap.size := by omega
  clear hsz
  refine (rTrim_c A xs c _ (h.below hbW) hs).mono ?_
  rintro e w1 ⟨A1, c1, rfl, r3, bw1⟩
  obtain ⟨m1, m2, m3, m4⟩ := keepR bw1 (show w.heap.size < W.heap.size by omega) kr
  have hbw : Below w.heap.size w w1 := hbW.trans (bw1.mono (show w.heap.size ≤ W.heap.size by omega))
  have hret := fun u => @ret_signed w _ p (val xs) (iv p xs) A1 c1 rfl ((r3.put2 (N := w.heap.size) (show w.heap.size < W.heap.size by omega) u (.slice A1 (limbs (val xs)).length c1)).mono (show w.heap.size ≤ W.heap.size by omega)) (below_put2 hbw (Nat.le_refl _) _ _)
  have HR := Lib.hid hret
  clear hret hbw r3 bw1 hbW kr h hs
  generalize (limbs (val xs)).length = n at *
  cases p
  · go_wp2
    exact bodyPost_ret (v := .agg #[.bool false, .slice A1 n c1]) (by simp [results, Try.results79, go_sem, m1, m2]) rfl (HR.out (.bool false))
  · by_cases h : 0 < n
    · have hd : (true && decide (0 < n)) = true := by simp [h]
      have HR2 := HR.out (.bool true)
      rw [hd] at HR2
      have HR3 := Lib.hid HR2
      clear HR2 hd
      go_wp2
      exact bodyPost_ret (v := .agg #[.bool true, .slice A1 n c1]) (by simp [results, Try.results79, go_sem, m1, m2]) rfl HR3.out
    · have h' : ¬ (0 : Int) < (n : Int) := by omega
      have hd : (true && decide (0 < n)) = false := by simp; omega
      have HR2 := HR.out (.bool false)
      rw [hd] at HR2
      have HR3 := Lib.hid HR2
      clear HR2 hd
      go_wp2
      all_goals exact bodyPost_ret (v := .agg #[.bool false, .slice A1 n c1]) (by simp [results, Try.results79, go_sem, m1, m2]) rfl HR3.out

set_option maxHeartbeats 400000 in
theorem rIEqual_c (p q : Bool) (A B : Option Addr) (xs ys : List Nat) (c d : Nat) (w : World) (ha : Lim w A c xs) (hb : Lim w B d ys) (hs : xs.length ≤ 70368744177664) (ht : ys.length ≤ 70368744177664) :
    Calls Try.prog 31 #[.agg #[.bool p, .slice A xs.length c], .agg #[.bool q, .slice B ys.length d]] w (RetB w (decide (p = q ∧ xs = ys))) := by
  by_cases h : p = q
  · subst h
    have hpp : (p == p) = true := by simp
    have he : decide (p = p ∧ xs = ys) = decide (xs = ys) := by simp
    rw [he]
    clear he
    go_enter Try.func31, Try.ntmps31
    go_wp2_with fail
    obtain ⟨W, hW, hbW, hsz, k1, k2, k3, k4⟩ := two_boxes w p p (.slice A xs.length c) (.slice B ys.length d)
    rw [hW]
    clear hW hsz
    refine (rEqual_c A B xs ys c d _ (ha.below hbW) (hb.below hbW) hs ht).mono ?_
    rintro e w' ⟨rfl, n, rfl⟩
    go_wp2
    go_ret
    exact ⟨rfl, below_drewN hbW n⟩
  · have hpp : (p == q) = false := by simp [h]
    have he : decide (p = q ∧ xs = ys) = false := by simp [h]
    rw [he]
    clear he
    go_enter Try.func31, Try.ntmps31
    go_wp2
    go_ret
    exact ⟨rfl, ((Below.refl _ _).alloc (Nat.le_refl _) _).alloc (by simp) _⟩

set_option maxHeartbeats 400000 in
theorem rFromInt_c (v : Int) (w : World) (h1 : -9223372036854775808 ≤ v) (h2 : v ≤ 9223372036854775807) :
    Calls Try.prog 77 #[.int .i64 v] w (RetInt w v) := by
  have hB : Ba * Ba = 18446744073709551616 := by decide
  obtain ⟨W, hW, hbW, hsz, kr⟩ := one_box w (.bool false) (.slice none 0 0)
  have hz : w.heap.size + 1 ≤ W.heap.size := by omega
  clear hsz
  have HW := Lib.hid hW
  clear hW
  by_cases h0 : v < 0
  · obtain ⟨m, hm⟩ : ∃ m : Nat, -v = (m : Int) := ⟨(-v).toNat, by omega⟩
    have hm2 : m < Ba * Ba := by omega
    have HM := Lib.hid hm
    clear hm hB
    have hl := Nat.le_trans (limbs_two.2 hm2) (show 2 ≤ 70368744177664 by omega)
    go_enter Try.func77, Try.ntmps77
    go_wp2_with fail
    rw [HW.out, show (-(v + 1) + 1) = (m : Int) from by have := HM.out; omega]
    refine (rFromUint64_c m _ hm2).mono ?_
    rintro e w1 ⟨A1, c1, rfl, r3, bw1⟩
    obtain ⟨m1, m2, m3, m4⟩ := keepR bw1 (show w.heap.size < W.heap.size by omega) kr
    go_wp2_with fail
    refine (Make_c true A1 (limbs m) c1 _ r3.lim hl).mono ?_
    rintro e w2 ⟨A2, c2, rfl, q3, bw2⟩
    obtain ⟨n1, n2, n3, n4⟩ := keepR bw2 (Nat.lt_of_lt_of_le (show w.heap.size < W.heap.size by omega) bw1.size) ⟨m1, m2, m3, m4⟩
    have ev : iv true (limbs m) = v := by unfold iv; rw [val_limbs]; have := HM.out; simp; omega
    rw [ev] at q3 ⊢
    have hret : RetInt w v (.returned (.agg #[.bool (decide (v < 0)), .slice A2 (limbs v.natAbs).length c2])) ((w2.setCell ⟨w.heap.size, 0, none⟩ (.bool (decide (v < 0)))).setCell ⟨w.heap.size, 1, none⟩ (.slice A2 (limbs v.natAbs).length c2)) :=
      ⟨A2, c2, rfl, (q3.put2 (Nat.lt_of_lt_of_le (show w.heap.size < W.heap.size by omega) bw1.size) _ _).mono (Nat.le_trans (show w.heap.size ≤ W.heap.size by omega) bw1.size), below_put2 ((hbW.trans (bw1.mono (show w.heap.size ≤ W.heap.size by omega))).trans (bw2.mono (Nat.le_trans (show w.heap.size ≤ W.heap.size by omega) bw1.size))) (Nat.le_refl _) _ _⟩
    clear ev q3 r3 bw1 bw2 hbW kr m1 m2 m3 m4
    have hd : decide (v < 0) = true := by simp; omega
    rw [hd] at hret ⊢
    clear hd
    go_wp2
    exact bodyPost_ret (v := .agg #[.bool true, .slice A2 (limbs v.natAbs).length c2]) (by simp [results, Try.results77, go_sem, n1, n2]) rfl hret
  · obtain ⟨m, hm⟩ : ∃ m : Nat, v = (m : Int) := ⟨v.toNat, by omega⟩
    have hm2 : m < Ba * Ba := by omega
    have HM := Lib.hid hm
    clear hm hB
    have hl := Nat.le_trans (limbs_two.2 hm2) (show 2 ≤ 70368744177664 by omega)
    go_enter Try.func77, Try.ntmps77
    go_wp2_with fail
    rw [HW.out, show v = (m : Int) from by have := HM.out; omega]
    refine (rFromUint64_c m _ hm2).mono ?_
    rintro e w1 ⟨A1, c1, rfl, r3, bw1⟩
    obtain ⟨m1, m2, m3, m4⟩ := keepR bw1 (show w.heap.size < W.heap.size by omega) kr
    go_wp2_with fail
    refine (Make_c false A1 (limbs m) c1 _ r3.lim hl).mono ?_
    rintro e w2 ⟨A2, c2, rfl, q3, bw2⟩
    obtain ⟨n1, n2, n3, n4⟩ := keepR bw2 (Nat.lt_of_lt_of_le (show w.heap.size < W.heap.size by omega) bw1.size) ⟨m1, m2, m3, m4⟩
    have ev : iv false (limbs m) = v := by unfold iv; rw [val_limbs]; have := HM.out; simp; omega
    rw [ev] at q3 ⊢
    have hret : RetInt w v (.returned (.agg #[.bool (decide (v < 0)), .slice A2 (limbs v.natAbs).length c2])) ((w2.setCell ⟨w.heap.size, 0, none⟩ (.bool (decide (v < 0)))).setCell ⟨w.heap.size, 1, none⟩ (.slice A2 (limbs v.natAbs).length c2)) :=
      ⟨A2, c2, rfl, (q3.put2 (Nat.lt_of_lt_of_le (show w.heap.size < W.heap.size by omega) bw1.size) _ _).mono (Nat.le_trans (show w.heap.size ≤ W.heap.size by omega) bw1.size), below_put2 ((hbW.trans (bw1.mono (show w.heap.size ≤ W.heap.size by omega))).trans (bw2.mono (Nat.le_trans (show w.heap.size ≤ W.heap.size by omega) bw1.size))) (Nat.le_refl _) _ _⟩
    clear ev q3 r3 bw1 bw2 hbW kr m1 m2 m3 m4
    have hd : decide (v < 0) = false := by simp; omega
    rw [hd] at hret ⊢
    clear hd
    go_wp2
    exact bodyPost_ret (v := .agg #[.bool false, .slice A2 (limbs v.natAbs).length c2]) (by simp [results, Try.results77, go_sem, n1, n2]) rfl hret

end Go.Proofs.Ytkpchamgghhihaa
