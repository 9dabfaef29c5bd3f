/- The walk of the statement IntegerValues: it returns true. -/
import Derived.Test.YtkoehkadhjjmoaaRefG
import Derived.Test.YtkoehkadhjjmoaaLawIN
import Derived.OpenShut
namespace Go.Proofs.Ytkoehkadhjjmoaa
open Go.RowKit Gm

theorem Sign_e (p : Bool) (r : Int) (A : Option Addr) (xs : List Nat) (c : Nat) (w : World) (h : Lim w A c xs) (hr : sgn (iv p xs) = r) :
    Calls Try.prog 25 #[.agg #[.bool p, .slice A xs.length c]] w (RetI w r) := by
  subst hr; exact Sign_c p A xs c w h
theorem rSign_e (p : Bool) (r : Int) (A : Option Addr) (xs : List Nat) (c : Nat) (w : World) (h : Lim w A c xs) (hs : xs.length ≤ 70368744177664) (hr : sgn (iv p xs) = r) :
    Calls Try.prog 43 #[.agg #[.bool p, .slice A xs.length c]] w (RetI w r) := by
  subst hr; exact rSign_c p A xs c w h hs
theorem rICompare_e (p q : Bool) (r : Int) (A B : Option Addr) (xs ys : List Nat) (c d : Nat) (w : World) (ha : Lim w A c xs) (hb : Lim w B d ys) (hs : xs.length ≤ 35184372087808) (ht : ys.length ≤ 35184372087808) (hr : cmpI (iv p xs) (iv q ys) = r) :
    Calls Try.prog 44 #[.agg #[.bool p, .slice A xs.length c], .agg #[.bool q, .slice B ys.length d]] w (RetI w r) := by
  subst hr; exact rICompare_c p q A B xs ys c d w 35184372087808 ha hb hs ht (by omega)

set_option maxRecDepth 100000 in
set_option maxHeartbeats 4000000 in
theorem values_walk (p : Bool) (A : Option Addr) (xs : List Nat) (c : Nat) (q : Bool) (B : Option Addr) (ys : List Nat) (d : Nat) (v : Int) (w : World) (ha : Lim w A c xs) (hb : Lim w B d ys) (ka : xs.length ≤ 35184372087808) (kb : ys.length ≤ 35184372087808) (wv : (Lit.int .i64 v).wf = true) :
    Calls Try.prog 6 #[.agg #[.bool p, .slice A xs.length c], .agg #[.bool q, .slice B ys.length d], .int .i64 v] w (RetB w true) := by
  obtain ⟨v1, v2⟩ := bounds_i64 wv
  clear wv
  have hB : Ba * Ba = 18446744073709551616 := by decide
  have zv : (limbs v.natAbs).length ≤ 70368744177664 := Nat.le_of_lt (limbs_small (by rw [hB]; omega))
  have za := iv_len (p := p) ha.lb ka
  clear hB
  obtain ⟨a, ea⟩ : ∃ a, iv p xs = a := ⟨_, rfl⟩
  rw [ea] at za
  obtain ⟨x, ex⟩ : ∃ x, (if fits a then a else 0) = x := ⟨_, rfl⟩
  obtain ⟨y, ey⟩ : ∃ y, fits a = y := ⟨_, rfl⟩
  obtain ⟨s, es⟩ : ∃ s, sgn a = s := ⟨_, rfl⟩
  obtain ⟨k, ek⟩ : ∃ k, cmpI (iv p xs) (iv q ys) = k := ⟨_, rfl⟩
  have HA := Lib.hid ea
  have HX := Lib.hid ex
  have HY := Lib.hid ey
  have HS := Lib.hid es
  have HK := Lib.hid ek
  clear ea ex ey es ek
  have tk1 : True := trivial
  have tk2 : True := trivial
  go_enter Try.func6, Try.ntmps6
  go_wp2_with fail
  obtain ⟨W, hW, hbW, hsz, t0, t1, t2, t3⟩ := two_boxes w p q (.slice A xs.length c) (.slice B ys.length d)
  rw [hW]
  clear hW
  have j0 : w.heap.size < W.heap.size := by omega
  have j1 : w.heap.size + 1 < W.heap.size := by omega
  clear hsz
  replace ha := ha.below hbW
  replace hb := hb.below hbW
  refine (Value_c p A xs c W ha).mono ?_
  rw [HA.out]
  rintro e w1 ⟨rfl, b1⟩
  rw [HX.out, HY.out]
  have f1 := cellB b1 j0 t0
  have f2 := cellB b1 j0 t1
  go_wp2_with fail
  refine (rValue_c p A xs c w1 (ha.below b1) (by omega)).mono ?_
  rw [HA.out]
  rintro e w2 ⟨rfl, b2⟩
  rw [HX.out, HY.out]
  have bW2 : Below W.heap.size W w2 := b1.trans (b2.mono b1.size)
  clear b1 b2 f1 f2
  go_wp2_with fail
  refine (FromInt_c v w2 v1 v2).mono ?_
  rintro e w3 ⟨A3, c3, rfl, r3, b3⟩
  go_wp2_with fail
  refine (Value_y v A3 c3 w3 r3.lim v1 v2).mono ?_
  rintro e w4 ⟨rfl, b4⟩
  have hBel : Below W.heap.size W w4 := (bW2.trans (b3.mono bW2.size)).trans (b4.mono (Nat.le_trans bW2.size b3.size))
  clear bW2 b3 b4 r3
  have g0 := cellB hBel j0 t0
  have g1 := cellB hBel j0 t1
  have g2 := cellB hBel j1 t2
  have g3 := cellB hBel j1 t3
  go_wp2_with fail
  clear g0 g1 g2 g3
  replace hBel := hBel.drew
  go_region_held3 (fun w' => w'.cell? ⟨w.heap.size, 0, none⟩ = some (.bool p) ∧ w'.cell? ⟨w.heap.size, 1, none⟩ = some (.slice A xs.length c) ∧ w'.cell? ⟨w.heap.size + 1, 0, none⟩ = some (.bool q) ∧ w'.cell? ⟨w.heap.size + 1, 1, none⟩ = some (.slice B ys.length d))
    (first | exact ⟨cellB hBel j0 t0, cellB hBel j0 t1, cellB hBel j1 t2, cellB hBel j1 t3⟩ | go_keep)
    (first
      | (go_at_call 24; refine (awake2_c _).mono ?_; rintro e w' ⟨rfl, b9⟩; replace hBel := hBel.trans (b9.mono hBel.size))
      | (go_at_call 42; refine (INorm_n p A xs c _ a 35184372087808 ?_ ka HA.out (by omega)).mono ?_; exact ha.below hBel; rintro e w5 ⟨A5, c5, rfl, r5, b9⟩; replace hBel := hBel.trans (b9.mono hBel.size); have E5 := Below.refl w5.heap.size w5)
      | (go_at_call 32; refine (rNorm_n p A xs c _ a 35184372087808 ?_ ka HA.out (by omega)).mono ?_; exact ha.below hBel; rintro e w6 ⟨A6, c6, rfl, r6, b9⟩; replace hBel := hBel.trans (b9.mono hBel.size); replace E5 := E5.trans (b9.mono E5.size))
      | (go_at_call 28; have _t := tk1; clear tk1; refine (rIEq_c a A5 A6 c5 c6 _ ?_ r6.lim ?_).mono ?_; exact r5.lim.below E5; omega; rintro e w' ⟨rfl, b9⟩; replace hBel := hBel.trans (b9.mono hBel.size))
      | (go_at_call 41; refine (FromInt_c v _ v1 v2).mono ?_; rintro e w7 ⟨A7, c7, rfl, r7, b9⟩; replace hBel := hBel.trans (b9.mono hBel.size); have E7 := Below.refl w7.heap.size w7)
      | (go_at_call 31; refine (rFromInt_c v _ v1 v2).mono ?_; rintro e w8 ⟨A8, c8, rfl, r8, b9⟩; replace hBel := hBel.trans (b9.mono hBel.size); replace E7 := E7.trans (b9.mono E7.size))
      | (go_at_call 28; have _t := tk2; clear tk2; refine (rIEq_c v A7 A8 c7 c8 _ ?_ r8.lim zv).mono ?_; exact r7.lim.below E7; rintro e w' ⟨rfl, b9⟩; replace hBel := hBel.trans (b9.mono hBel.size))
      | (go_at_call 25; refine (Sign_e p s A xs c _ ?_ ?_).mono ?_; exact ha.below hBel; rw [HA.out]; exact HS.out; rintro e w' ⟨rfl, b9⟩; replace hBel := hBel.trans (b9.mono hBel.size))
      | (go_at_call 43; refine (rSign_e p s A xs c _ ?_ ?_ ?_).mono ?_; exact ha.below hBel; omega; rw [HA.out]; exact HS.out; rintro e w' ⟨rfl, b9⟩; replace hBel := hBel.trans (b9.mono hBel.size))
      | (go_at_call 23; refine (ICompare_e p q k A B xs ys c d _ ?_ ?_ HK.out).mono ?_; exact ha.below hBel; exact hb.below hBel; rintro e w' ⟨rfl, b9⟩; replace hBel := hBel.trans (b9.mono hBel.size))
      | (go_at_call 44; refine (rICompare_e p q k A B xs ys c d _ ?_ ?_ ka kb HK.out).mono ?_; exact ha.below hBel; exact hb.below hBel; rintro e w' ⟨rfl, b9⟩; replace hBel := hBel.trans (b9.mono hBel.size)))
  rename_i hHeld
  clear hHeld
  go_wp2
  go_ret
  exact ⟨rfl, hbW.trans (hBel.mono hbW.size)⟩

end Go.Proofs.Ytkoehkadhjjmoaa
