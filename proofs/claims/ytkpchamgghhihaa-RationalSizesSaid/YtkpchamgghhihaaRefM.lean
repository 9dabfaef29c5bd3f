/- Contracts of the reference of layer 2: Canonical, Bezout. -/
import Derived.Test.YtkpchamgghhihaaExt
import Derived.Test.YtkpchamgghhihaaBox
namespace Go.Proofs.Ytkpchamgghhihaa
open Go.RowKit Gm

theorem Bz.size {a b g x y : Int} (h : Bz a b g x y) : (x.natAbs ≤ 1 ∨ x.natAbs ≤ b.natAbs) ∧ (y.natAbs ≤ 1 ∨ y.natAbs ≤ a.natAbs) := by
  by_cases hb : b = 0
  · obtain ⟨h1, h2⟩ := h.b0 hb
    subst h1
    exact ⟨.inl h2, .inl (by decide)⟩
  · by_cases ha : a = 0
    · obtain ⟨h1, h2⟩ := h.a0 hb ha
      subst h1
      exact ⟨.inl (by decide), .inl (by omega)⟩
    · obtain ⟨h1, h2⟩ := h.bd ha hb
      have hg : 0 < g.natAbs := by
        rw [← h.gg, Int.natAbs_natCast]
        exact Nat.gcd_pos_of_pos_left _ (by omega)
      exact ⟨.inr (Nat.le_trans (Nat.le_mul_of_pos_right _ hg) h1), .inr (Nat.le_trans (Nat.le_mul_of_pos_right _ hg) h2)⟩
theorem rICompare_k (m n r : Int) (A B : Option Addr) (c d : Nat) (w : World) (K : Nat) (ha : Lim w A c (limbs m.natAbs)) (hb : Lim w B d (limbs n.natAbs)) (hs : (limbs m.natAbs).length ≤ K) (ht : (limbs n.natAbs).length ≤ K) (hK : K < 70368744177664) (hr : cmpI m n = r) :
    Calls Try.prog 82 #[.agg #[.bool (decide (m < 0)), .slice A (limbs m.natAbs).length c], .agg #[.bool (decide (n < 0)), .slice B (limbs n.natAbs).length d]] w (RetI w r) := by
  have k := rICompare_c (decide (m < 0)) (decide (n < 0)) A B (limbs m.natAbs) (limbs n.natAbs) c d w K ha hb hs ht hK
  rw [iv_canon, iv_canon, hr] at k; exact k
theorem rSign_e (p : Bool) (A : Option Addr) (xs : List Nat) (c : Nat) (w : World) (n r : Int) (h : Lim w A c xs) (hs : xs.length ≤ 70368744177664) (hn : iv p xs = n) (hr : sgn n = r) :
    Calls Try.prog 84 #[.agg #[.bool p, .slice A xs.length c]] w (RetI w r) := by
  subst hn hr; exact rSign_c p A xs c w h hs
theorem rSign_f (n r : Int) (A : Option Addr) (c : Nat) (w : World) (h : Lim w A c (limbs n.natAbs)) (hs : (limbs n.natAbs).length ≤ 70368744177664) (hr : sgn n = r) :
    Calls Try.prog 84 #[.agg #[.bool (decide (n < 0)), .slice A (limbs n.natAbs).length c]] w (RetI w r) := by
  subst hr; exact rSign_k n A c w h hs
set_option maxRecDepth 100000 in
set_option maxHeartbeats 1000000 in
theorem rCanon_k (n : Int) (A : Option Addr) (c : Nat) (w : World) (h : Lim w A c (limbs n.natAbs)) (hs : (limbs n.natAbs).length ≤ 35184372087808) :
    Calls Try.prog 81 #[.agg #[.bool (decide (n < 0)), .slice A (limbs n.natAbs).length c]] w (RetB w true) := by
  go_enter Try.func81, Try.ntmps81
  go_wp2_with fail
  obtain ⟨W, hW⟩ : ∃ W, w.alloc (.cells #[.bool (decide (n < 0)), .slice A (limbs n.natAbs).length c] 38) = W := ⟨_, rfl⟩
  have hbW : Below w.heap.size w W := by rw [← hW]; exact bel1 _ _
  have hi : IntAt W w.heap.size (decide (n < 0)) (.slice A (limbs n.natAbs).length c) := by rw [← hW]; exact IntAt.new _ _ _
  rw [hW]
  clear hW
  have j0 := hi.lt
  have c0 := hi.c0
  have c1 := hi.c1
  replace h := h.below hbW
  clear hi
  have hBel : Below W.heap.size W W.drew := (Below.refl _ _).drew
  go_region_held3 (fun w' => w'.cell? ⟨w.heap.size, 0, none⟩ = some (.bool (decide (n < 0))) ∧ w'.cell? ⟨w.heap.size, 1, none⟩ = some (.slice A (limbs n.natAbs).length c))
    (first | exact ⟨cellB hBel j0 c0, cellB hBel j0 c1⟩ | go_keep)
    (first
      | (go_at_call 108; refine (rNorm_n _ A (limbs n.natAbs) c _ n 35184372087808 ?_ hs (iv_canon n) (by omega)).mono ?_; exact h.below hBel; rintro e w1 ⟨A1, d1, rfl, r1, b1⟩; replace hBel := hBel.trans (b1.mono hBel.size))
      | (go_at_call 31; refine (rIEq_c n A A1 c d1 _ ?_ ?_ (by omega)).mono ?_; exact h.below hBel; exact r1.lim; rintro e w2 ⟨rfl, b2⟩; replace hBel := hBel.trans (b2.mono hBel.size)))
  rename_i hHeld
  clear hHeld
  go_wp2
  go_ret
  exact ⟨rfl, hbW.trans (hBel.mono hbW.size)⟩

theorem boxes5p (w : World) (p0 p1 p2 p3 p4 : Bool) (u0 u1 u2 u3 u4 : Value) :
    ∃ W, ((((w.alloc (.cells #[.bool p0, u0] 38)).alloc (.cells #[.bool p1, u1] 38)).alloc (.cells #[.bool p2, u2] 38)).alloc (.cells #[.bool p3, u3] 38)).alloc (.cells #[.bool p4, u4] 38) = W ∧ Below w.heap.size w W ∧ W.heap.size = w.heap.size + 5 ∧
      W.cell? ⟨w.heap.size, 0, none⟩ = some (.bool p0) ∧ W.cell? ⟨w.heap.size, 1, none⟩ = some u0 ∧ W.cell? ⟨w.heap.size + 1, 0, none⟩ = some (.bool p1) ∧ W.cell? ⟨w.heap.size + 1, 1, none⟩ = some u1 ∧
      W.cell? ⟨w.heap.size + 1 + 1, 0, none⟩ = some (.bool p2) ∧ W.cell? ⟨w.heap.size + 1 + 1, 1, none⟩ = some u2 ∧ W.cell? ⟨w.heap.size + 1 + 1 + 1, 0, none⟩ = some (.bool p3) ∧ W.cell? ⟨w.heap.size + 1 + 1 + 1, 1, none⟩ = some u3 ∧
      W.cell? ⟨w.heap.size + 1 + 1 + 1 + 1, 0, none⟩ = some (.bool p4) ∧ W.cell? ⟨w.heap.size + 1 + 1 + 1 + 1, 1, none⟩ = some u4 := by
  refine ⟨_, rfl, (((((Below.refl _ _).alloc (Nat.le_refl _) _).alloc (by simp) _).alloc (by simp; omega) _).alloc (by simp; omega) _).alloc (by simp; omega) _, by simp, ?_⟩
  refine ⟨?_, ?_, ?_, ?_, ?_, ?_, ?_, ?_, ?_, ?_⟩ <;> go_simp

set_option maxRecDepth 100000 in
set_option maxHeartbeats 4000000 in
theorem Bezout_c (p q : Bool) (A B : Option Addr) (xs ys : List Nat) (c d : Nat) (w : World) (a b g x y : Int) (Ag Ax Ay : Option Addr) (cg cx cy : Nat) (ha : Lim w A c xs) (hb : Lim w B d ys) (hg : Lim w Ag cg (limbs g.natAbs)) (hx : Lim w Ax cx (limbs x.natAbs)) (hy : Lim w Ay cy (limbs y.natAbs)) (ka : xs.length ≤ 35184372087808) (kb : ys.length ≤ 35184372087808) (ea : iv p xs = a) (eb : iv q ys = b) (hz : Bz a b g x y) :
    Calls Try.prog 33 #[.agg #[.bool p, .slice A xs.length c], .agg #[.bool q, .slice B ys.length d], .agg #[.bool (decide (g < 0)), .slice Ag (limbs g.natAbs).length cg], .agg #[.bool (decide (x < 0)), .slice Ax (limbs x.natAbs).length cx], .agg #[.bool (decide (y < 0)), .slice Ay (limbs y.natAbs).length cy]] w (RetB w true) := by
  have za : (limbs a.natAbs).length ≤ 35184372087808 := by rw [← ea]; exact iv_len ha.lb ka
  have zb : (limbs b.natAbs).length ≤ 35184372087808 := by rw [← eb]; exact iv_len hb.lb kb
  have l1 : (limbs 1).length ≤ 35184372087808 := by rw [limbs_lit' [1] (by decide) (by decide)]; decide
  have zg : (limbs g.natAbs).length ≤ 35184372087808 := by rw [← hz.gg, Int.natAbs_natCast]; exact gcd_sz za zb rfl (Nat.le_refl _)
  obtain ⟨bx, by'⟩ := hz.size
  have zx : (limbs x.natAbs).length ≤ 35184372087808 := by
    rcases bx with h | h
    · exact Nat.le_trans (limbs_mono h) l1
    · exact Nat.le_trans (limbs_mono h) zb
  have zy : (limbs y.natAbs).length ≤ 35184372087808 := by
    rcases by' with h | h
    · exact Nat.le_trans (limbs_mono h) l1
    · exact Nat.le_trans (limbs_mono h) za
  obtain ⟨P1, e1⟩ : ∃ P : Int, a * x = P := ⟨_, rfl⟩
  obtain ⟨P2, e2⟩ : ∃ P : Int, b * y = P := ⟨_, rfl⟩
  have z1 : (limbs P1.natAbs).length ≤ 70368744175616 := imul_sz za zx e1 (by omega)
  have z2 : (limbs P2.natAbs).length ≤ 70368744175616 := imul_sz zb zy e2 (by omega)
  have e3 : P1 + P2 = g := by rw [← e1, ← e2]; exact hz.e
  have ecm : cmpI g g = 0 := by unfold cmpI; rw [if_neg (by omega), if_neg (by omega)]
  have Ea := Lib.hid ea
  have Eb := Lib.hid eb
  have E1 := Lib.hid e1
  have E2 := Lib.hid e2
  have E3 := Lib.hid e3
  have EG := Lib.hid hz.gg
  have ECM := Lib.hid ecm
  have HZ := Lib.hid hz
  clear ea eb e1 e2 e3 ecm hz bx by'
  go_enter Try.func33, Try.ntmps33
  go_wp2_with fail
  obtain ⟨W, hW, hbW, hsz, cf0, cf1, cf2, cf3, cf4, cf5, cf6, cf7, cf8, cf9⟩ := boxes5p w p q (decide (g < 0)) (decide (x < 0)) (decide (y < 0)) (.slice A xs.length c) (.slice B ys.length d) (.slice Ag (limbs g.natAbs).length cg) (.slice Ax (limbs x.natAbs).length cx) (.slice Ay (limbs y.natAbs).length cy)
  rw [hW]
  clear hW
  have j0 : w.heap.size < W.heap.size := by omega
  have j1 : w.heap.size + 1 < W.heap.size := by omega
  have j2 : w.heap.size + 1 + 1 < W.heap.size := by omega
  have j3 : w.heap.size + 1 + 1 + 1 < W.heap.size := by omega
  have j4 : w.heap.size + 1 + 1 + 1 + 1 < W.heap.size := by omega
  clear hsz
  replace ha := ha.below hbW
  replace hb := hb.below hbW
  replace hg := hg.below hbW
  replace hx := hx.below hbW
  replace hy := hy.below hbW
  have tk0 : True := trivial
  have tk1 : True := trivial
  have hBel : Below W.heap.size W W.drew := (Below.refl _ _).drew
  go_region_held3 (fun w' => w'.cell? ⟨w.heap.size, 0, none⟩ = some (.bool p) ∧ w'.cell? ⟨w.heap.size, 1, none⟩ = some (.slice A xs.length c) ∧ w'.cell? ⟨w.heap.size + 1, 0, none⟩ = some (.bool q) ∧ w'.cell? ⟨w.heap.size + 1, 1, none⟩ = some (.slice B ys.length d) ∧ w'.cell? ⟨w.heap.size + 1 + 1, 0, none⟩ = some (.bool (decide (g < 0))) ∧ w'.cell? ⟨w.heap.size + 1 + 1, 1, none⟩ = some (.slice Ag (limbs g.natAbs).length cg) ∧ w'.cell? ⟨w.heap.size + 1 + 1 + 1, 0, none⟩ = some (.bool (decide (x < 0))) ∧ w'.cell? ⟨w.heap.size + 1 + 1 + 1, 1, none⟩ = some (.slice Ax (limbs x.natAbs).length cx) ∧ w'.cell? ⟨w.heap.size + 1 + 1 + 1 + 1, 0, none⟩ = some (.bool (decide (y < 0))) ∧ w'.cell? ⟨w.heap.size + 1 + 1 + 1 + 1, 1, none⟩ = some (.slice Ay (limbs y.natAbs).length cy))
    (first | (with_reducible exact ⟨cellB hBel j0 cf0, cellB hBel j0 cf1, cellB hBel j1 cf2, cellB hBel j1 cf3, cellB hBel j2 cf4, cellB hBel j2 cf5, cellB hBel j3 cf6, cellB hBel j3 cf7, cellB hBel j4 cf8, cellB hBel j4 cf9⟩) | go_keep)
    (first
      | (go_at_call 32; refine (rIGCD_n p q A B xs ys c d _ a b g 35184372087808 35184372087808 ?_ ?_ ka kb Ea.out Eb.out EG.out (by omega) (by omega)).mono ?_; exact ha.below hBel; exact hb.below hBel; rintro e w1 ⟨A1, c1, rfl, r1, b1⟩; replace hBel := hBel.trans (b1.mono hBel.size))
      | (go_at_call 31; refine (rIEq_c g Ag A1 cg c1 _ ?_ ?_ (by omega)).mono ?_; exact hg.below hBel; exact r1.lim; rintro e w2 ⟨rfl, b2⟩; replace hBel := hBel.trans (b2.mono hBel.size))
      | (go_at_call 81; have _t := tk0; clear tk0; refine (rCanon_k x Ax cx _ ?_ zx).mono ?_; exact hx.below hBel; rintro e w3 ⟨rfl, b3⟩; replace hBel := hBel.trans (b3.mono hBel.size))
      | (go_at_call 81; refine (rCanon_k y Ay cy _ ?_ zy).mono ?_; exact hy.below hBel; rintro e w4 ⟨rfl, b4⟩; replace hBel := hBel.trans (b4.mono hBel.size))
      | (go_at_call 54; have _t := tk1; clear tk1; refine (rIMul_n p _ A Ax xs (limbs x.natAbs) c cx _ a x P1 35184372087808 35184372087808 ?_ ?_ ka zx Ea.out (iv_canon x) E1.out (by omega)).mono ?_; exact ha.below hBel; exact hx.below hBel; rintro e w5 ⟨A5, c5, rfl, r5, b5⟩; replace hBel := hBel.trans (b5.mono hBel.size))
      | (go_at_call 54; refine (rIMul_n q _ B Ay ys (limbs y.natAbs) d cy _ b y P2 35184372087808 35184372087808 ?_ ?_ kb zy Eb.out (iv_canon y) E2.out (by omega)).mono ?_; exact hb.below hBel; exact hy.below hBel; rintro e w6 ⟨A6, c6, rfl, r6, b6⟩; replace hBel := hBel.trans (b6.mono hBel.size))
      | (go_at_call 83; refine (rIAdd_n _ _ A5 A6 (limbs P1.natAbs) (limbs P2.natAbs) c5 c6 _ P1 P2 g 70368744175616 70368744175616 ?_ ?_ z1 z2 (iv_canon P1) (iv_canon P2) E3.out (by omega) (by omega)).mono ?_; exact r5.lim.below b6; exact r6.lim; rintro e w7 ⟨A7, c7, rfl, r7, b7⟩; replace hBel := hBel.trans (b7.mono hBel.size))
      | (go_at_call 82; refine (rICompare_k g g 0 A7 Ag c7 cg _ 35184372087808 ?_ ?_ zg zg (by omega) ECM.out).mono ?_; exact r7.lim; exact hg.below hBel; rintro e w8 ⟨rfl, b8⟩; have hBel' : Below W.heap.size W w8 := hBel.trans (b8.mono hBel.size); clear hBel; have hBel := hBel'; clear hBel'))
  rename_i hHeld
  clear hHeld
  obtain ⟨o, eo⟩ : ∃ o : Int, 1 = o := ⟨_, rfl⟩
  have EO := Lib.hid eo
  have zo : (limbs o.natAbs).length ≤ 35184372087808 := by rw [← eo]; exact l1
  clear eo
  go_wp2_with fail
  refine (rFromInt_n 1 o _ (by omega) (by omega) EO.out).mono ?_
  rintro e w9 ⟨Ao, co, rfl, ro, b9⟩
  obtain ⟨W2, hW2⟩ : ∃ W2, w9.alloc (.cells #[.bool (decide (o < 0)), .slice Ao (limbs o.natAbs).length co] 38) = W2 := ⟨_, rfl⟩
  have hi := IntAt.new w9 (decide (o < 0)) (.slice Ao (limbs o.natAbs).length co)
  rw [hW2] at hi
  have b29 : Below W.heap.size W W2 := by
    rw [← hW2]
    have h9 := hBel.trans (b9.mono hBel.size)
    exact h9.alloc h9.size _
  have lo := ro.lim.below (bel1 w9 (.cells #[.bool (decide (o < 0)), .slice Ao (limbs o.natAbs).length co] 38))
  rw [hW2] at lo
  replace cf0 := cellB b29 j0 cf0
  replace cf1 := cellB b29 j0 cf1
  replace cf2 := cellB b29 j1 cf2
  replace cf3 := cellB b29 j1 cf3
  replace cf4 := cellB b29 j2 cf4
  replace cf5 := cellB b29 j2 cf5
  replace cf6 := cellB b29 j3 cf6
  replace cf7 := cellB b29 j3 cf7
  replace cf8 := cellB b29 j4 cf8
  replace cf9 := cellB b29 j4 cf9
  replace j0 := Nat.lt_of_lt_of_le j0 b29.size
  replace j1 := Nat.lt_of_lt_of_le j1 b29.size
  replace j2 := Nat.lt_of_lt_of_le j2 b29.size
  replace j3 := Nat.lt_of_lt_of_le j3 b29.size
  replace j4 := Nat.lt_of_lt_of_le j4 b29.size
  replace ha := ha.below b29
  replace hb := hb.below b29
  replace hg := hg.below b29
  replace hx := hx.below b29
  replace hy := hy.below b29
  have hend : Below w.heap.size w W2 := hbW.trans (b29.mono hbW.size)
  have ko := hi.lt
  have co0 := hi.c0
  have co1 := hi.c1
  clear hi b29 hBel b9 ro hbW
  obtain ⟨X, eX⟩ : ∃ s : Int, ((x.natAbs : Nat) : Int) = s := ⟨_, rfl⟩
  obtain ⟨Y, eY⟩ : ∃ s : Int, ((y.natAbs : Nat) : Int) = s := ⟨_, rfl⟩
  have zX : (limbs X.natAbs).length ≤ 35184372087808 := by rw [← eX, Int.natAbs_natCast]; exact zx
  have zY : (limbs Y.natAbs).length ≤ 35184372087808 := by rw [← eY, Int.natAbs_natCast]; exact zy
  have EX := Lib.hid eX
  have EY := Lib.hid eY
  clear eX eY
  by_cases hb0 : b = 0
  · have hsb : sgn b = 0 := by rw [hb0]; decide
    obtain ⟨y0, x1⟩ := HZ.out.b0 hb0
    have hsy : sgn y = 0 := by rw [y0]; decide
    obtain ⟨r, er⟩ : ∃ r, cmpI X o = r := ⟨_, rfl⟩
    have hr : r ≤ 0 := by rw [← er, ← EX.out, ← EO.out]; unfold cmpI; split <;> (try split) <;> omega
    have HSY := Lib.hid hsy
    have ER := Lib.hid er
    clear hsy er y0 x1 hb0
    go_wp2_with fail
    refine (rSign_e q B ys d _ b 0 hb (by omega) Eb.out hsb).mono ?_
    rintro e w10 ⟨rfl, b10⟩
    have hBel : Below W2.heap.size W2 w10.drew := b10.drew
    clear hsb
    go_wp2_with fail
    go_region_held3 (fun w' => w'.cell? ⟨w.heap.size + 1 + 1 + 1, 0, none⟩ = some (.bool (decide (x < 0))) ∧ w'.cell? ⟨w.heap.size + 1 + 1 + 1, 1, none⟩ = some (.slice Ax (limbs x.natAbs).length cx) ∧ w'.cell? ⟨w.heap.size + 1 + 1 + 1 + 1, 0, none⟩ = some (.bool (decide (y < 0))) ∧ w'.cell? ⟨w.heap.size + 1 + 1 + 1 + 1, 1, none⟩ = some (.slice Ay (limbs y.natAbs).length cy) ∧ w'.cell? ⟨w9.heap.size, 0, none⟩ = some (.bool (decide (o < 0))) ∧ w'.cell? ⟨w9.heap.size, 1, none⟩ = some (.slice Ao (limbs o.natAbs).length co))
      (first | (with_reducible exact ⟨cellB hBel j3 cf6, cellB hBel j3 cf7, cellB hBel j4 cf8, cellB hBel j4 cf9, cellB hBel ko co0, cellB hBel ko co1⟩) | go_keep)
      (first
        | (go_at_call 84; refine (rSign_f y 0 Ay cy _ ?_ (by omega) HSY.out).mono ?_; exact hy.below hBel; rintro e w11 ⟨rfl, b11⟩; replace hBel := hBel.trans (b11.mono hBel.size))
        | (go_at_call 85; refine (rAbs_n _ Ax (limbs x.natAbs) cx _ x X 35184372087808 ?_ zx (iv_canon x) EX.out (by omega)).mono ?_; exact hx.below hBel; rintro e w12 ⟨A12, c12, rfl, r12, b12⟩; replace hBel := hBel.trans (b12.mono hBel.size))
        | (go_at_call 82; refine (rICompare_k X o r A12 Ao c12 co _ 35184372087808 ?_ ?_ zX zo (by omega) ER.out).mono ?_; exact r12.lim; exact lo.below hBel; rintro e w13 ⟨rfl, b13⟩; replace hBel := hBel.trans (b13.mono hBel.size)))
    rename_i hHeld
    clear hHeld
    go_wp2
    go_ret
    exact ⟨rfl, hend.trans (hBel.mono hend.size)⟩
  · obtain ⟨sb, esb⟩ : ∃ s, sgn b = s := ⟨_, rfl⟩
    have hs1 : ¬ sb = 0 := by rw [← esb]; unfold sgn; split <;> (try split) <;> omega
    have ESB := Lib.hid esb
    clear esb
    by_cases ha0 : a = 0
    · have hsa : sgn a = 0 := by rw [ha0]; decide
      obtain ⟨x0, y1⟩ := HZ.out.a0 hb0 ha0
      have hsx : sgn x = 0 := by rw [x0]; decide
      have er : cmpI Y o = 0 := by rw [← EY.out, ← EO.out, y1]; decide
      have HSX := Lib.hid hsx
      have ER := Lib.hid er
      clear hsx er x0 y1 hb0
      go_wp2_with fail
      refine (rSign_e q B ys d _ b sb hb (by omega) Eb.out ESB.out).mono ?_
      rintro e w10 ⟨rfl, b10⟩
      have d0 := cellB b10 j0 cf0
      have d1 := cellB b10 j0 cf1
      go_wp2_with fail
      refine (rSign_e p A xs c _ a 0 (ha.below b10) (by omega) Ea.out hsa).mono ?_
      rintro e w11 ⟨rfl, b11⟩
      have hBel : Below W2.heap.size W2 w11.drew := (b10.trans (b11.mono b10.size)).drew
      clear hsa d0 d1
      go_wp2_with fail
      go_region_held3 (fun w' => w'.cell? ⟨w.heap.size + 1 + 1 + 1, 0, none⟩ = some (.bool (decide (x < 0))) ∧ w'.cell? ⟨w.heap.size + 1 + 1 + 1, 1, none⟩ = some (.slice Ax (limbs x.natAbs).length cx) ∧ w'.cell? ⟨w.heap.size + 1 + 1 + 1 + 1, 0, none⟩ = some (.bool (decide (y < 0))) ∧ w'.cell? ⟨w.heap.size + 1 + 1 + 1 + 1, 1, none⟩ = some (.slice Ay (limbs y.natAbs).length cy) ∧ w'.cell? ⟨w9.heap.size, 0, none⟩ = some (.bool (decide (o < 0))) ∧ w'.cell? ⟨w9.heap.size, 1, none⟩ = some (.slice Ao (limbs o.natAbs).length co))
        (first | (with_reducible exact ⟨cellB hBel j3 cf6, cellB hBel j3 cf7, cellB hBel j4 cf8, cellB hBel j4 cf9, cellB hBel ko co0, cellB hBel ko co1⟩) | go_keep)
        (first
          | (go_at_call 84; refine (rSign_f x 0 Ax cx _ ?_ (by omega) HSX.out).mono ?_; exact hx.below hBel; rintro e w12 ⟨rfl, b12⟩; replace hBel := hBel.trans (b12.mono hBel.size))
          | (go_at_call 85; refine (rAbs_n _ Ay (limbs y.natAbs) cy _ y Y 35184372087808 ?_ zy (iv_canon y) EY.out (by omega)).mono ?_; exact hy.below hBel; rintro e w13 ⟨A12, c12, rfl, r12, b13⟩; replace hBel := hBel.trans (b13.mono hBel.size))
          | (go_at_call 82; refine (rICompare_k Y o 0 A12 Ao c12 co _ 35184372087808 ?_ ?_ zY zo (by omega) ER.out).mono ?_; exact r12.lim; exact lo.below hBel; rintro e w14 ⟨rfl, b14⟩; replace hBel := hBel.trans (b14.mono hBel.size)))
      rename_i hHeld
      clear hHeld
      go_wp2
      go_ret
      exact ⟨rfl, hend.trans (hBel.mono hend.size)⟩
    · obtain ⟨sa, esa⟩ : ∃ s, sgn a = s := ⟨_, rfl⟩
      have hs2 : ¬ sa = 0 := by rw [← esa]; unfold sgn; split <;> (try split) <;> omega
      obtain ⟨q1, q2⟩ := HZ.out.bd ha0 hb0
      obtain ⟨Ba', eB⟩ : ∃ s : Int, ((b.natAbs : Nat) : Int) = s := ⟨_, rfl⟩
      obtain ⟨Aa, eA⟩ : ∃ s : Int, ((a.natAbs : Nat) : Int) = s := ⟨_, rfl⟩
      obtain ⟨U, eU⟩ : ∃ s : Int, X * g = s := ⟨_, rfl⟩
      obtain ⟨V, eV⟩ : ∃ s : Int, Y * g = s := ⟨_, rfl⟩
      have zB : (limbs Ba'.natAbs).length ≤ 35184372087808 := by rw [← eB, Int.natAbs_natCast]; exact zb
      have zA : (limbs Aa.natAbs).length ≤ 35184372087808 := by rw [← eA, Int.natAbs_natCast]; exact za
      have zU : (limbs U.natAbs).length ≤ 70368744175616 := imul_sz zX zg eU (by omega)
      have zV : (limbs V.natAbs).length ≤ 70368744175616 := imul_sz zY zg eV (by omega)
      have g0 : ((g.natAbs : Nat) : Int) = g := by rw [← HZ.out.gg]; simp
      have hU : U ≤ Ba' := by rw [← eU, ← EX.out, ← eB, ← g0, ← Int.natCast_mul]; exact Int.ofNat_le.2 q1
      have hV : V ≤ Aa := by rw [← eV, ← EY.out, ← eA, ← g0, ← Int.natCast_mul]; exact Int.ofNat_le.2 q2
      obtain ⟨r, er⟩ : ∃ r, cmpI U Ba' = r := ⟨_, rfl⟩
      obtain ⟨s, es⟩ : ∃ s, cmpI V Aa = s := ⟨_, rfl⟩
      have hr : r ≤ 0 := by rw [← er]; unfold cmpI; split <;> (try split) <;> omega
      have hs : s ≤ 0 := by rw [← es]; unfold cmpI; split <;> (try split) <;> omega
      have ESA := Lib.hid esa
      have EBB := Lib.hid eB
      have EAA := Lib.hid eA
      have EU := Lib.hid eU
      have EV := Lib.hid eV
      have ER := Lib.hid er
      have ES := Lib.hid es
      clear esa eB eA eU eV er es q1 q2 g0 hU hV ha0 hb0
      go_wp2_with fail
      refine (rSign_e q B ys d _ b sb hb (by omega) Eb.out ESB.out).mono ?_
      rintro e w10 ⟨rfl, b10⟩
      have d0 := cellB b10 j0 cf0
      have d1 := cellB b10 j0 cf1
      go_wp2_with fail
      refine (rSign_e p A xs c _ a sa (ha.below b10) (by omega) Ea.out ESA.out).mono ?_
      rintro e w11 ⟨rfl, b11⟩
      have hBel : Below W2.heap.size W2 w11.drew := (b10.trans (b11.mono b10.size)).drew
      clear d0 d1
      have tk0 : True := trivial
      have tk2 : True := trivial
      have tk3 : True := trivial
      have tk4 : True := trivial
      have tk5 : True := trivial
      go_wp2_with fail
      go_region_held3 (fun w' => w'.cell? ⟨w.heap.size, 0, none⟩ = some (.bool p) ∧ w'.cell? ⟨w.heap.size, 1, none⟩ = some (.slice A xs.length c) ∧ w'.cell? ⟨w.heap.size + 1, 0, none⟩ = some (.bool q) ∧ w'.cell? ⟨w.heap.size + 1, 1, none⟩ = some (.slice B ys.length d) ∧ w'.cell? ⟨w.heap.size + 1 + 1, 0, none⟩ = some (.bool (decide (g < 0))) ∧ w'.cell? ⟨w.heap.size + 1 + 1, 1, none⟩ = some (.slice Ag (limbs g.natAbs).length cg) ∧ w'.cell? ⟨w.heap.size + 1 + 1 + 1, 0, none⟩ = some (.bool (decide (x < 0))) ∧ w'.cell? ⟨w.heap.size + 1 + 1 + 1, 1, none⟩ = some (.slice Ax (limbs x.natAbs).length cx) ∧ w'.cell? ⟨w.heap.size + 1 + 1 + 1 + 1, 0, none⟩ = some (.bool (decide (y < 0))) ∧ w'.cell? ⟨w.heap.size + 1 + 1 + 1 + 1, 1, none⟩ = some (.slice Ay (limbs y.natAbs).length cy))
        (first | (with_reducible exact ⟨cellB hBel j0 cf0, cellB hBel j0 cf1, cellB hBel j1 cf2, cellB hBel j1 cf3, cellB hBel j2 cf4, cellB hBel j2 cf5, cellB hBel j3 cf6, cellB hBel j3 cf7, cellB hBel j4 cf8, cellB hBel j4 cf9⟩) | go_keep)
        (first
          | (go_at_call 85; have _t := tk0; clear tk0; refine (rAbs_n _ Ax (limbs x.natAbs) cx _ x X 35184372087808 ?_ zx (iv_canon x) EX.out (by omega)).mono ?_; exact hx.below hBel; rintro e w12 ⟨A12, c12, rfl, r12, b12⟩; replace hBel := hBel.trans (b12.mono hBel.size))
          | (go_at_call 54; have _t := tk2; clear tk2; refine (rIMul_n _ _ A12 Ag (limbs X.natAbs) (limbs g.natAbs) c12 cg _ X g U 35184372087808 35184372087808 ?_ ?_ zX zg (iv_canon X) (iv_canon g) EU.out (by omega)).mono ?_; exact r12.lim; exact hg.below hBel; rintro e w13 ⟨A13, c13, rfl, r13, b13⟩; replace hBel := hBel.trans (b13.mono hBel.size))
          | (go_at_call 85; have _t := tk3; clear tk3; refine (rAbs_n q B ys d _ b Ba' 35184372087808 ?_ kb Eb.out EBB.out (by omega)).mono ?_; exact hb.below hBel; rintro e w14 ⟨A14, c14, rfl, r14, b14⟩; replace hBel := hBel.trans (b14.mono hBel.size))
          | (go_at_call 82; have _t := tk4; clear tk4; refine (rICompare_k U Ba' r A13 A14 c13 c14 _ 70368744175616 ?_ ?_ zU (by omega) (by omega) ER.out).mono ?_; exact r13.lim.below b14; exact r14.lim; rintro e w15 ⟨rfl, b15⟩; replace hBel := hBel.trans (b15.mono hBel.size))
          | (go_at_call 85; have _t := tk5; clear tk5; refine (rAbs_n _ Ay (limbs y.natAbs) cy _ y Y 35184372087808 ?_ zy (iv_canon y) EY.out (by omega)).mono ?_; exact hy.below hBel; rintro e w16 ⟨A16, c16, rfl, r16, b16⟩; replace hBel := hBel.trans (b16.mono hBel.size))
          | (go_at_call 54; refine (rIMul_n _ _ A16 Ag (limbs Y.natAbs) (limbs g.natAbs) c16 cg _ Y g V 35184372087808 35184372087808 ?_ ?_ zY zg (iv_canon Y) (iv_canon g) EV.out (by omega)).mono ?_; exact r16.lim; exact hg.below hBel; rintro e w17 ⟨A17, c17, rfl, r17, b17⟩; replace hBel := hBel.trans (b17.mono hBel.size))
          | (go_at_call 85; refine (rAbs_n p A xs c _ a Aa 35184372087808 ?_ ka Ea.out EAA.out (by omega)).mono ?_; exact ha.below hBel; rintro e w18 ⟨A18, c18, rfl, r18, b18⟩; replace hBel := hBel.trans (b18.mono hBel.size))
          | (go_at_call 82; refine (rICompare_k V Aa s A17 A18 c17 c18 _ 70368744175616 ?_ ?_ zV (by omega) (by omega) ES.out).mono ?_; exact r17.lim.below b18; exact r18.lim; rintro e w19 ⟨rfl, b19⟩; replace hBel := hBel.trans (b19.mono hBel.size)))
      rename_i hHeld
      clear hHeld
      go_wp2
      go_ret
      exact ⟨rfl, hend.trans (hBel.mono hend.size)⟩
end Go.Proofs.Ytkpchamgghhihaa
