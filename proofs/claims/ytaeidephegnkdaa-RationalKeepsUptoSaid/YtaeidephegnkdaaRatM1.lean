/- RatA RatB RatC RatD in one text. -/
import Derived.Test.YtaeidephegnkdaaMG
import Derived.Test.YtaeidephegnkdaaNatP
namespace Go.Proofs.Ytaeidephegnkdaa
open Go.RowKit Gm
/- Rational numbers: the value of a Rat of the program; canonical results; contracts of rational.small, parts. -/

/-- the value of numerator and denominator; 0 if the denominator is 0 -/
def rv (p : Bool) (xs ys : List Nat) : Rat := mkRat (iv p xs) (val ys)
theorem rv_den0 {p : Bool} {xs ys : List Nat} (h : val ys = 0) : rv p xs ys = 0 := by unfold rv; rw [h]; exact Rat.mkRat_zero _
theorem rv_canon (r : Rat) : rv (decide (r.num < 0)) (limbs r.num.natAbs) (limbs r.den) = r := by
  unfold rv; rw [iv_canon, val_limbs]; exact Rat.mkRat_self r
theorem mkRat_parts {n : Int} {d : Nat} (h : d ≠ 0) : (mkRat n d).num = n / ((Nat.gcd n.natAbs d : Nat) : Int) ∧ (mkRat n d).den = d / Nat.gcd n.natAbs d := by
  unfold mkRat
  rw [dif_neg h, Rat.normalize_eq]
  exact ⟨rfl, rfl⟩
theorem mkRat_num_le (n : Int) (d : Nat) : (mkRat n d).num.natAbs ≤ n.natAbs := by
  by_cases h : d = 0
  · subst h; rw [Rat.mkRat_zero]; simp
  · rw [(mkRat_parts h).1]; exact Int.natAbs_ediv_le_natAbs _ _
theorem mkRat_den_le (n : Int) {d : Nat} (h : d ≠ 0) : (mkRat n d).den ≤ d := by
  rw [(mkRat_parts h).2]; exact Nat.div_le_self _ _
theorem mkRat_den_le1 (n : Int) (d : Nat) : (mkRat n d).den ≤ d ∨ (mkRat n d).den ≤ 1 := by
  by_cases h : d = 0
  · subst h; right; rw [Rat.mkRat_zero]; decide
  · exact .inl (mkRat_den_le n h)
theorem limbs1_len : (limbs 1).length = 1 := by rw [limbs_lit' [1] (by decide) (by decide)]; rfl
theorem rv_num_sz {p : Bool} {xs ys : List Nat} {K : Nat} (h : Lb xs) (hl : xs.length ≤ K) : (limbs (rv p xs ys).num.natAbs).length ≤ K :=
  Nat.le_trans (limbs_mono (mkRat_num_le _ _)) (iv_len h hl)
theorem rv_den_sz {p : Bool} {xs ys : List Nat} {K : Nat} (h : Lb ys) (hl : ys.length ≤ K) (h1 : 1 ≤ K) : (limbs (rv p xs ys).den).length ≤ K := by
  rcases mkRat_den_le1 (iv p xs) (val ys) with h2 | h2
  · exact Nat.le_trans (limbs_mono h2) (Nat.le_trans (limbs_length_le h) hl)
  · exact Nat.le_trans (limbs_mono h2) (by rw [limbs1_len]; exact h1)

/-- what a function returns that computes a rational number: its canonical form, in new memory -/
def RetRat (w : World) (r : Rat) (e : Ending) (w' : World) : Prop :=
  ∃ A c B d, e = .returned (.agg #[.bool (decide (r.num < 0)), .slice A (limbs r.num.natAbs).length c, .slice B (limbs r.den).length d]) ∧ Own w.heap.size w' A c (limbs r.num.natAbs) ∧ Own w.heap.size w' B d (limbs r.den) ∧ Below w.heap.size w w'
/-- a Rat in a variable -/
structure RatAt (w : World) (N : Nat) (b : Bool) (s t : Value) : Prop where
  c0 : w.cell? ⟨N, 0, none⟩ = some (.bool b)
  c1 : w.cell? ⟨N, 1, none⟩ = some s
  c2 : w.cell? ⟨N, 2, none⟩ = some t
  f0 : w.frozen? ⟨N, 0, none⟩ = false
  f1 : w.frozen? ⟨N, 1, none⟩ = false
  f2 : w.frozen? ⟨N, 2, none⟩ = false
theorem RatAt.below {B N : Nat} {w w' : World} {b : Bool} {s t : Value} (h : RatAt w N b s t) (hb : Below B w w') (hN : N < B) : RatAt w' N b s t :=
  ⟨(hb.cell (p := ⟨N, 0, none⟩) hN).trans h.c0, (hb.cell (p := ⟨N, 1, none⟩) hN).trans h.c1, (hb.cell (p := ⟨N, 2, none⟩) hN).trans h.c2, (hb.frozen (p := ⟨N, 0, none⟩) hN).trans h.f0, (hb.frozen (p := ⟨N, 1, none⟩) hN).trans h.f1, (hb.frozen (p := ⟨N, 2, none⟩) hN).trans h.f2⟩
theorem RatAt.lt {w : World} {N : Nat} {b : Bool} {s t : Value} (h : RatAt w N b s t) : N < w.heap.size := World.block_lt_of_cell? w _ h.c0
theorem RatAt.keep {w w' : World} {N : Nat} {b : Bool} {s t : Value} (h : RatAt w N b s t) (hb : Below w.heap.size w w') : RatAt w' N b s t := h.below hb h.lt
theorem RatAt.new (w : World) (b : Bool) (s t : Value) : RatAt (w.alloc (.cells #[.bool b, s, t] 26)) w.heap.size b s t := by
  refine ⟨?_, ?_, ?_, ?_, ?_, ?_⟩ <;> go_simp
/-- one boxed Rat -/
theorem rbox1 (w : World) (p : Bool) (u v : Value) :
    ∃ W, w.alloc (.cells #[.bool p, u, v] 26) = W ∧ Below w.heap.size w W ∧ W.heap.size = w.heap.size + 1 ∧ RatAt W w.heap.size p u v :=
  ⟨_, rfl, bel1 _ _, by simp, RatAt.new _ _ _ _⟩
/-- a boxed Rat and a Rat for the result -/
theorem rbox1r (w : World) (p : Bool) (u v : Value) :
    ∃ W, (w.alloc (.cells #[.bool p, u, v] 26)).alloc (.cells #[.bool false, .slice none 0 0, .slice none 0 0] 26) = W ∧ Below w.heap.size w W ∧ W.heap.size = w.heap.size + 2 ∧ RatAt W w.heap.size p u v ∧ RatAt W (w.heap.size + 1) false (.slice none 0 0) (.slice none 0 0) := by
  refine ⟨_, rfl, bel2 _ _ _, by simp, ?_, ?_⟩
  · refine ⟨?_, ?_, ?_, ?_, ?_, ?_⟩ <;> go_simp
  · refine ⟨?_, ?_, ?_, ?_, ?_, ?_⟩ <;> go_simp

/-- a small numerator and denominator -/
def RetSmall (w : World) (n d : Int) (o : Bool) (e : Ending) (w' : World) : Prop := e = .returned (.tuple #[.int .i64 n, .int .i64 d, .bool o]) ∧ Below w.heap.size w w'

set_option maxRecDepth 100000 in
set_option maxHeartbeats 1000000 in
theorem small_no (p : Bool) (A B : Option Addr) (xs ys : List Nat) (c d : Nat) (w : World) (ha : Lim w A c xs) (hb : Lim w B d ys) (h : ¬ (val xs ≤ 2147483647 ∧ val ys ≤ 2147483647)) :
    Calls Try.prog 56 #[.agg #[.bool p, .slice A xs.length c, .slice B ys.length d]] w (RetSmall w 0 0 false) := by
  have hB : Ba * Ba = 18446744073709551616 := by decide
  obtain ⟨W, hW, hbW, _, hr⟩ := rbox1 w p (.slice A xs.length c) (.slice B ys.length d)
  obtain ⟨r0, r1, r2, _, _, _⟩ := id hr
  have lr := hr.lt
  replace ha := ha.below hbW
  replace hb := hb.below hbW
  obtain ⟨u, eu⟩ : ∃ u, val xs = u := ⟨_, rfl⟩
  obtain ⟨v, ev⟩ : ∃ v, val ys = v := ⟨_, rfl⟩
  rw [eu, ev] at h
  have EU := Lib.hid eu
  have EV := Lib.hid ev
  have HB := Lib.hid hB
  have HW := Lib.hid hW
  clear eu ev hB hW
  go_enter Try.func56, Try.ntmps56
  by_cases hu : u ≤ 18446744073709551615
  · by_cases hv : v ≤ 18446744073709551615
    · by_cases hu2 : 2147483648 ≤ u
      · have d1 : decide ((2147483648 : Int) ≤ (u : Int)) = true := by rw [decide_eq_true_eq]; omega
        have HU := Lib.hid hu
        have HV := Lib.hid hv
        clear hu hv
        clear h hu2
        go_wp2_with fail
        rw [HW.out]
        refine (U64Y_n A xs c _ u ha EU.out (by rw [HB.out]; have := HU.out; omega)).mono ?_
        rintro e w1 ⟨rfl, b1⟩
        obtain ⟨q0, q1, q2, _, _, _⟩ := hr.keep b1
        go_wp2_with fail
        refine (U64Y_n B ys d _ v (hb.below b1) EV.out (by rw [HB.out]; have := HV.out; omega)).mono ?_
        rintro e w2 ⟨rfl, b2⟩
        go_wp2_with fail
        all_goals (go_ret3; exact ⟨rfl, hbW.trans ((b1.trans (b2.mono b1.size)).mono hbW.size)⟩)
      · have d1 : decide ((2147483648 : Int) ≤ (u : Int)) = false := by rw [decide_eq_false_iff_not]; omega
        have d2 : decide ((2147483648 : Int) ≤ (v : Int)) = true := by rw [decide_eq_true_eq]; omega
        have HU := Lib.hid hu
        have HV := Lib.hid hv
        clear hu hv
        clear h hu2
        go_wp2_with fail
        rw [HW.out]
        refine (U64Y_n A xs c _ u ha EU.out (by rw [HB.out]; have := HU.out; omega)).mono ?_
        rintro e w1 ⟨rfl, b1⟩
        obtain ⟨q0, q1, q2, _, _, _⟩ := hr.keep b1
        go_wp2_with fail
        refine (U64Y_n B ys d _ v (hb.below b1) EV.out (by rw [HB.out]; have := HV.out; omega)).mono ?_
        rintro e w2 ⟨rfl, b2⟩
        go_wp2_with fail
        all_goals (go_ret3; exact ⟨rfl, hbW.trans ((b1.trans (b2.mono b1.size)).mono hbW.size)⟩)
    · clear h
      have HU := Lib.hid hu
      have HV := Lib.hid hv
      clear hu hv
      go_wp2_with fail
      rw [HW.out]
      refine (U64Y_n A xs c _ u ha EU.out (by rw [HB.out]; have := HU.out; omega)).mono ?_
      rintro e w1 ⟨rfl, b1⟩
      obtain ⟨q0, q1, q2, _, _, _⟩ := hr.keep b1
      go_wp2_with fail
      refine (U64N_n B ys d _ v (hb.below b1) EV.out (by rw [HB.out]; have := HV.out; omega)).mono ?_
      rintro e w2 ⟨rfl, b2⟩
      go_wp2_with fail
      all_goals (go_ret3; exact ⟨rfl, hbW.trans ((b1.trans (b2.mono b1.size)).mono hbW.size)⟩)
  · clear h
    by_cases hv : v ≤ 18446744073709551615
    · have tk : True := trivial
      have HU := Lib.hid hu
      have HV := Lib.hid hv
      clear hu hv
      go_wp2_with fail
      rw [HW.out]
      refine (U64N_n A xs c _ u ha EU.out (by rw [HB.out]; have := HU.out; omega)).mono ?_
      rintro e w1 ⟨rfl, b1⟩
      obtain ⟨q0, q1, q2, _, _, _⟩ := hr.keep b1
      go_wp2_with fail
      refine (U64Y_n B ys d _ v (hb.below b1) EV.out (by rw [HB.out]; have := HV.out; omega)).mono ?_
      rintro e w2 ⟨rfl, b2⟩
      go_wp2_with fail
      all_goals (go_ret3; exact ⟨rfl, hbW.trans ((b1.trans (b2.mono b1.size)).mono hbW.size)⟩)
    · have tk : True := trivial
      have HU := Lib.hid hu
      have HV := Lib.hid hv
      clear hu hv
      go_wp2_with fail
      rw [HW.out]
      refine (U64N_n A xs c _ u ha EU.out (by rw [HB.out]; have := HU.out; omega)).mono ?_
      rintro e w1 ⟨rfl, b1⟩
      obtain ⟨q0, q1, q2, _, _, _⟩ := hr.keep b1
      go_wp2_with fail
      refine (U64N_n B ys d _ v (hb.below b1) EV.out (by rw [HB.out]; have := HV.out; omega)).mono ?_
      rintro e w2 ⟨rfl, b2⟩
      go_wp2_with fail
      all_goals (go_ret3; exact ⟨rfl, hbW.trans ((b1.trans (b2.mono b1.size)).mono hbW.size)⟩)

/-- what small tells of a number -/
def Sm (p : Bool) (xs ys : List Nat) (n d : Int) : Prop := -2147483647 ≤ n ∧ n ≤ 2147483647 ∧ 1 ≤ d ∧ d ≤ 2147483647 ∧ mkRat n d.toNat = rv p xs ys
set_option maxRecDepth 100000 in
set_option maxHeartbeats 1000000 in
theorem small_yes (p : Bool) (A B : Option Addr) (xs ys : List Nat) (c d : Nat) (w : World) (ha : Lim w A c xs) (hb : Lim w B d ys) (h : val xs ≤ 2147483647 ∧ val ys ≤ 2147483647) :
    Calls Try.prog 56 #[.agg #[.bool p, .slice A xs.length c, .slice B ys.length d]] w fun e w' => ∃ n d, Sm p xs ys n d ∧ RetSmall w n d true e w' := by
  have hB : Ba * Ba = 18446744073709551616 := by decide
  obtain ⟨W, hW, hbW, _, hr⟩ := rbox1 w p (.slice A xs.length c) (.slice B ys.length d)
  obtain ⟨r0, r1, r2, _, _, _⟩ := id hr
  have lr := hr.lt
  replace ha := ha.below hbW
  replace hb := hb.below hbW
  obtain ⟨u, eu⟩ : ∃ u, val xs = u := ⟨_, rfl⟩
  obtain ⟨v, ev⟩ : ∃ v, val ys = v := ⟨_, rfl⟩
  have hiv : iv p xs = if p then -(u : Int) else u := by rw [← eu]; rfl
  rw [eu, ev] at h
  obtain ⟨hu, hv⟩ := h
  have d1 : decide ((2147483648 : Int) ≤ (u : Int)) = false := by rw [decide_eq_false_iff_not]; omega
  have d2 : decide ((2147483648 : Int) ≤ (v : Int)) = false := by rw [decide_eq_false_iff_not]; omega
  have a1 : wrap64 (u : Int) = (u : Int) := IntWalk.wrap64_in _ ⟨by omega, by omega⟩
  have a2 : wrap64 (v : Int) = (v : Int) := IntWalk.wrap64_in _ ⟨by omega, by omega⟩
  have a3 : wrap64 (-(u : Int)) = -(u : Int) := IntWalk.wrap64_in _ ⟨by omega, by omega⟩
  have W1 := Lib.hid a1
  have W2 := Lib.hid a2
  have W3 := Lib.hid a3
  clear a1 a2 a3
  have EU := Lib.hid eu
  have EV := Lib.hid ev
  have HB := Lib.hid hB
  have HW := Lib.hid hW
  have HI := Lib.hid hiv
  have HU := Lib.hid hu
  have HV := Lib.hid hv
  clear eu ev hB hW hiv hu hv
  go_enter Try.func56, Try.ntmps56
  by_cases h0 : v = 0
  · have j0 : (v : Int) = 0 := by omega
    have HS := Lib.hid (show Sm p xs ys 0 1 from ⟨by omega, by omega, by omega, by omega, by rw [rv_den0 (EV.out.trans h0)]; rfl⟩)
    clear h0
    go_wp2_with fail
    rw [HW.out]
    refine (U64Y_n A xs c _ u ha EU.out (by rw [HB.out]; have := HU.out; omega)).mono ?_
    rintro e w1 ⟨rfl, b1⟩
    obtain ⟨q0, q1, q2, _, _, _⟩ := hr.keep b1
    go_wp2_with fail
    refine (U64Y_n B ys d _ v (hb.below b1) EV.out (by rw [HB.out]; have := HV.out; omega)).mono ?_
    rintro e w2 ⟨rfl, b2⟩
    go_wp2_with fail
    all_goals (go_ret3; exact ⟨0, 1, HS.out, rfl, hbW.trans ((b1.trans (b2.mono b1.size)).mono hbW.size)⟩)
  · have j0 : ¬ (v : Int) = 0 := by omega
    cases p with
    | true =>
      have HS := Lib.hid (show Sm true xs ys (-(u : Int)) v from ⟨by have := HU.out; omega, by omega, by omega, by have := HV.out; omega, by unfold rv; rw [HI.out, EV.out]; simp⟩)
      clear h0
      go_wp2_with fail
      rw [HW.out]
      refine (U64Y_n A xs c _ u ha EU.out (by rw [HB.out]; have := HU.out; omega)).mono ?_
      rintro e w1 ⟨rfl, b1⟩
      obtain ⟨q0, q1, q2, _, _, _⟩ := hr.keep b1
      go_wp2_with fail
      refine (U64Y_n B ys d _ v (hb.below b1) EV.out (by rw [HB.out]; have := HV.out; omega)).mono ?_
      rintro e w2 ⟨rfl, b2⟩
      obtain ⟨s0, s1, s2, _, _, _⟩ := hr.keep (b1.trans (b2.mono b1.size))
      go_wp2_with fail
      all_goals (go_ret3; exact ⟨-(u : Int), v, HS.out, (show Ending.returned (.tuple #[.int .i64 (wrap64 (-wrap64 (u : Int))), .int .i64 (wrap64 (v : Int)), .bool true]) = _ from by rw [W1.out, W3.out, W2.out]), hbW.trans ((b1.trans (b2.mono b1.size)).mono hbW.size)⟩)
    | false =>
      have HS := Lib.hid (show Sm false xs ys (u : Int) v from ⟨by omega, by have := HU.out; omega, by omega, by have := HV.out; omega, by unfold rv; rw [HI.out, EV.out]; simp⟩)
      clear h0
      go_wp2_with fail
      rw [HW.out]
      refine (U64Y_n A xs c _ u ha EU.out (by rw [HB.out]; have := HU.out; omega)).mono ?_
      rintro e w1 ⟨rfl, b1⟩
      obtain ⟨q0, q1, q2, _, _, _⟩ := hr.keep b1
      go_wp2_with fail
      refine (U64Y_n B ys d _ v (hb.below b1) EV.out (by rw [HB.out]; have := HV.out; omega)).mono ?_
      rintro e w2 ⟨rfl, b2⟩
      obtain ⟨s0, s1, s2, _, _, _⟩ := hr.keep (b1.trans (b2.mono b1.size))
      go_wp2_with fail
      all_goals (go_ret3; exact ⟨u, v, HS.out, (show Ending.returned (.tuple #[.int .i64 (wrap64 (u : Int)), .int .i64 (wrap64 (v : Int)), .bool true]) = _ from by rw [W1.out, W2.out]), hbW.trans ((b1.trans (b2.mono b1.size)).mono hbW.size)⟩)

/- Contracts of rational.quotient, rational.parts. -/

theorem below_put3 {B : Nat} {w0 w : World} {N : Nat} (h : Below B w0 w) (hN : B ≤ N) (u v t : Value) : Below B w0 (((w.setCell ⟨N, 0, none⟩ u).setCell ⟨N, 1, none⟩ v).setCell ⟨N, 2, none⟩ t) := by
  have h2 := below_put2 h hN u v
  exact ⟨h2.os, h2.tape, h2.output, by rw [World.size_setCell]; exact h2.size, fun k hk => (Below.heap_setCell _ ⟨N, 2, none⟩ t k (by show k ≠ N; omega)).trans (h2.block k hk)⟩
theorem Own.put3 {lo : Nat} {w : World} {A : Option Addr} {c N : Nat} {xs : List Nat} {b : Bool} {B C : Option Addr} {m n k l : Nat} (h : Own lo w A c xs) (hN : RatAt w N b (.slice B m n) (.slice C k l)) (b' : Bool) (u v : Value) : Own lo (((w.setCell ⟨N, 0, none⟩ (.bool b')).setCell ⟨N, 1, none⟩ u).setCell ⟨N, 2, none⟩ v) A c xs := by
  have h1 : Own lo (w.setCell ⟨N, 0, none⟩ (.bool b')) A c xs := h.store hN.c0 (by intro z e; cases e)
  have h2 : Own lo ((w.setCell ⟨N, 0, none⟩ (.bool b')).setCell ⟨N, 1, none⟩ u) A c xs := h1.store (v := .slice B m n) (by rw [World.cell?_setCell_other (b := (⟨N, 1, none⟩ : Addr)) (h := by simp)]; exact hN.c1) (by intro z e; cases e)
  exact h2.store (v := .slice C k l) (by rw [World.cell?_setCell_other (b := (⟨N, 2, none⟩ : Addr)) (h := by simp), World.cell?_setCell_other (b := (⟨N, 2, none⟩ : Addr)) (h := by simp)]; exact hN.c2) (by intro z e; cases e)
theorem Lim.put3 {w : World} {A : Option Addr} {c N : Nat} {xs : List Nat} {b : Bool} {B C : Option Addr} {m n k l : Nat} (h : Lim w A c xs) (hN : RatAt w N b (.slice B m n) (.slice C k l)) (b' : Bool) (u v : Value) : Lim (((w.setCell ⟨N, 0, none⟩ (.bool b')).setCell ⟨N, 1, none⟩ u).setCell ⟨N, 2, none⟩ v) A c xs := by
  have h1 : Lim (w.setCell ⟨N, 0, none⟩ (.bool b')) A c xs := h.store hN.c0 (by intro z e; cases e)
  have h2 : Lim ((w.setCell ⟨N, 0, none⟩ (.bool b')).setCell ⟨N, 1, none⟩ u) A c xs := h1.store (v := .slice B m n) (by rw [World.cell?_setCell_other (b := (⟨N, 1, none⟩ : Addr)) (h := by simp)]; exact hN.c1) (by intro z e; cases e)
  exact h2.store (v := .slice C k l) (by rw [World.cell?_setCell_other (b := (⟨N, 2, none⟩ : Addr)) (h := by simp), World.cell?_setCell_other (b := (⟨N, 2, none⟩ : Addr)) (h := by simp)]; exact hN.c2) (by intro z e; cases e)
/-- what a stored result is -/
theorem ret_rat {w w1 : World} {r : Rat} {N : Nat} {b : Bool} {B C : Option Addr} {m n k l : Nat} {A A' : Option Addr} {c c' : Nat} (hN : RatAt w1 N b (.slice B m n) (.slice C k l)) (hl : w.heap.size ≤ N) (o1 : Own w.heap.size w1 A c (limbs r.num.natAbs)) (o2 : Own w.heap.size w1 A' c' (limbs r.den)) (hb : Below w.heap.size w w1) :
    RetRat w r (.returned (.agg #[.bool (decide (r.num < 0)), .slice A (limbs r.num.natAbs).length c, .slice A' (limbs r.den).length c']))
      (((w1.setCell ⟨N, 0, none⟩ (.bool (decide (r.num < 0)))).setCell ⟨N, 1, none⟩ (.slice A (limbs r.num.natAbs).length c)).setCell ⟨N, 2, none⟩ (.slice A' (limbs r.den).length c')) :=
  ⟨A, c, A', c', rfl, o1.put3 hN _ _ _, o2.put3 hN _ _ _, below_put3 hb hl _ _ _⟩
theorem RetRat.drewN {w w' : World} {r : Rat} {e : Ending} (h : RetRat w r e w') (k : Nat) : RetRat w r e (w'.drewN k) := by
  obtain ⟨A, c, B, d, h1, h2, h3, h4⟩ := h
  exact ⟨A, c, B, d, h1, h2.drewN k, h3.drewN k, below_drewN h4 k⟩

theorem mkRat_abs {n : Int} {d : Nat} (h : d ≠ 0) : (mkRat n d).num.natAbs = n.natAbs / Nat.gcd n.natAbs d ∧ ((mkRat n d).num < 0 ↔ n < 0) ∧ (mkRat n d).den = d / Nat.gcd n.natAbs d := by
  obtain ⟨h1, h2⟩ := mkRat_parts (n := n) h
  have hg : 0 < Nat.gcd n.natAbs d := Nat.gcd_pos_of_pos_right _ (Nat.pos_of_ne_zero h)
  have hd : ((Nat.gcd n.natAbs d : Nat) : Int) ∣ n := by
    rw [← Int.dvd_natAbs]; exact Int.natCast_dvd_natCast.2 (Nat.gcd_dvd_left _ _)
  refine ⟨?_, ?_, h2⟩
  · rw [h1, Int.natAbs_ediv_of_dvd hd, Int.natAbs_natCast]
  · rw [h1]
    obtain ⟨k, hk⟩ := hd
    have hg' : (0 : Int) < ((Nat.gcd n.natAbs d : Nat) : Int) := by omega
    generalize ((Nat.gcd n.natAbs d : Nat) : Int) = g at hk hg'
    rw [hk, Int.mul_ediv_cancel_left _ (by omega)]
    constructor
    · intro h3; exact Int.mul_neg_of_pos_of_neg hg' h3
    · intro h3
      rcases Int.lt_or_le k 0 with h4 | h4
      · exact h4
      · have := Int.mul_nonneg (Int.le_of_lt hg') h4
        omega

/-- the world behind the box of the result -/
theorem rbox0 (w : World) : ∃ W, w.alloc (.cells #[.bool false, .slice none 0 0, .slice none 0 0] 26) = W ∧ Below w.heap.size w W ∧ W.heap.size = w.heap.size + 1 ∧ RatAt W w.heap.size false (.slice none 0 0) (.slice none 0 0) :=
  ⟨_, rfl, bel1 _ _, by simp, RatAt.new _ _ _ _⟩

set_option maxRecDepth 100000 in
set_option maxHeartbeats 2000000 in
theorem quotient_neg (n : Int) (d : Nat) (w : World) (h1 : -9223372036854775807 ≤ n) (h2 : n ≤ 9223372036854775807) (d1 : 1 ≤ d) (d2 : d ≤ 9223372036854775807) (hn : n < 0) :
    Calls Try.prog 57 #[.int .i64 n, .int .i64 (d : Int)] w (RetRat w (mkRat n d)) := by
  have hB : Ba * Ba = 18446744073709551616 := by decide
  obtain ⟨s, es⟩ : ∃ s : Nat, n.natAbs = s := ⟨_, rfl⟩
  obtain ⟨G, eG⟩ : ∃ G : Nat, Nat.gcd s d = G := ⟨_, rfl⟩
  have hG : 0 < G := by rw [← eG]; exact Nat.gcd_pos_of_pos_right _ (by omega)
  obtain ⟨q1, e1⟩ : ∃ q : Nat, s / G = q := ⟨_, rfl⟩
  obtain ⟨q2, e2⟩ : ∃ q : Nat, d / G = q := ⟨_, rfl⟩
  have hs : s ≤ 9223372036854775807 := by omega
  have l1 : q1 < Ba * Ba := by rw [hB, ← e1]; exact Nat.lt_of_le_of_lt (Nat.div_le_self _ _) (by omega)
  have l2 : q2 < Ba * Ba := by rw [hB, ← e2]; exact Nat.lt_of_le_of_lt (Nat.div_le_self _ _) (by omega)
  obtain ⟨r, er⟩ : ∃ r : Rat, mkRat n d = r := ⟨_, rfl⟩
  obtain ⟨a1, a2, a3⟩ := mkRat_abs (n := n) (d := d) (by omega)
  rw [er, es, eG] at a1 a3
  rw [er] at a2
  rw [e1] at a1
  rw [e2] at a3
  have a2' : decide (r.num < 0) = true := by rw [decide_eq_true_eq, a2]; exact hn
  have t1 : ((s : Nat) : Int) / ((G : Nat) : Int) = ((q1 : Nat) : Int) := by rw [← e1]; rfl
  have t2 : ((d : Nat) : Int) / ((G : Nat) : Int) = ((q2 : Nat) : Int) := by rw [← e2]; rfl
  have t1' : ((s : Nat) : Int).tdiv ((G : Nat) : Int) = ((q1 : Nat) : Int) := by rw [← e1]; rfl
  have t2' : ((d : Nat) : Int).tdiv ((G : Nat) : Int) = ((q2 : Nat) : Int) := by rw [← e2]; rfl
  rw [er]
  have dn : decide (n < 0) = true := by rw [decide_eq_true_eq]; exact hn
  have wn : IntKind.u64.wrap (-IntKind.u64.wrap n) = (s : Int) := by rw [IntKind.wrap_u64, IntKind.wrap_u64]; omega
  have A1 := Lib.hid a1
  have A2 := Lib.hid a2'
  have A3 := Lib.hid a3
  have EG := Lib.hid eG
  have L1 := Lib.hid l1
  have L2 := Lib.hid l2
  have T1 := Lib.hid t1
  have T2 := Lib.hid t2
  have WN := Lib.hid wn
  have HG := Lib.hid hG
  have WD := Lib.hid (show IntKind.u64.wrap ((d : Nat) : Int) = (d : Int) by rw [IntKind.wrap_u64]; omega)
  have WS := Lib.hid (show IntKind.u64.wrap ((s : Nat) : Int) = (s : Int) by rw [IntKind.wrap_u64]; omega)
  have HS := Lib.hid hs
  have HD := Lib.hid d2
  clear a1 a2 a2' a3 eG l1 l2 hB es er e1 e2 h1 h2 hs d2 wn
  obtain ⟨W, hW, hbW, hsz, hr⟩ := rbox0 w
  have HW := Lib.hid hW
  have jw : w.heap.size < W.heap.size := by omega
  clear hW hsz
  go_enter Try.func57, Try.ntmps57
  go_wp2_with fail
  rw [HW.out, WN.out, WD.out]
  clear HW
  go_loopw [6, 7] (fun x y wi => ∃ (x' y' k : Nat), x = .int .u64 x' ∧ y = .int .u64 y' ∧ x' ≤ 18446744073709551615 ∧ y' ≤ 18446744073709551615 ∧ Hid (Nat.gcd x' y' = G) ∧ wi = W.drewN k) (fun _ y _ => (intOf y).toNat)
  case atStart => exact ⟨d, s, 0, rfl, rfl, by have := HD.out; omega, by have := HS.out; omega, Lib.hid (by rw [Nat.gcd_comm]; exact EG.out), rfl⟩
  case round =>
    obtain ⟨x', y', k, rfl, rfl, hx', hy', hg', rfl⟩ := hrel
    rcases Nat.eq_zero_or_pos y' with rfl | hp
    · obtain rfl : x' = G := by rw [← hg'.out, Nat.gcd_zero_right]
      have gz : ((x' : Int) == 0) = false := by rw [beq_eq_false_iff_ne]; omega
      have hbk : Below w.heap.size w (W.drewN k) := below_drewN hbW k
      have hrk : RatAt (W.drewN k) w.heap.size false (.slice none 0 0) (.slice none 0 0) := hr.keep (below_drewN (Below.refl _ _) k)
      obtain ⟨U, hU⟩ : ∃ U, W.drewN k = U := ⟨_, rfl⟩
      rw [hU] at hbk hrk
      rw [hU]
      clear hU hr hbW jw
      have jw := hrk.lt
      have hBel : Below U.heap.size U U.drew := (Below.refl _ _).drew
      have tk0 : True := trivial
      have wd := WD.out
      have wq1 : IntKind.u64.wrap ((q1 : Nat) : Int) = (q1 : Int) := by have h := L1.out; rw [show Ba * Ba = 18446744073709551616 by decide] at h; rw [IntKind.wrap_u64]; omega
      have wq2 : IntKind.u64.wrap ((q2 : Nat) : Int) = (q2 : Int) := by have h := L2.out; rw [show Ba * Ba = 18446744073709551616 by decide] at h; rw [IntKind.wrap_u64]; omega
      have gz2 : ¬ (x' : Int) = 0 := by omega
      have gz3 : ¬ x' = 0 := by omega
      clear T1 T2 HG hg' hx' hy' HS HD WS EG hG d1 hn
      go_wp2_with fail
      go_region_held3 (fun _ => True) (first | trivial | go_keep)
        (first
          | (go_at_call 91; have _t := tk0; clear tk0; refine (FromUint64_c q1 _ L1.out).mono ?_; rintro e w1 ⟨B1, c1, rfl, o1, b1⟩; have p1 := o1.mono (lo' := w.heap.size) (Nat.le_trans hbk.size hBel.size); replace hBel := hBel.trans (b1.mono hBel.size))
          | (go_at_call 91; refine (FromUint64_c q2 _ L2.out).mono ?_; rintro e w2 ⟨B2, c2, rfl, o2, b2⟩; have p2 := o2.mono (lo' := w.heap.size) (Nat.le_trans hbk.size hBel.size); have hBel' : Below U.heap.size U w2 := hBel.trans (b2.mono hBel.size); clear hBel; have hBel := hBel'; clear hBel'; have hf := hrk.keep hBel; obtain ⟨x0, x1, x2, x3, x4, x5⟩ := id hf))
      rename_i hHeld
      clear hHeld
      have hret := ret_rat (w := w) (r := r) hf (Nat.le_refl _) (by rw [A1.out]; exact p1.below b2) (by rw [A3.out]; exact p2) (hbk.trans (hBel.mono hbk.size))
      rw [A1.out, A2.out, A3.out] at hret
      have HRET := Lib.hid hret
      clear hret p1 p2 o1 o2 b1 b2 hBel hf hrk
      go_wp2_with fail
      exact bodyPost_ret (v := .agg #[.bool true, .slice B1 (limbs q1).length c1, .slice B2 (limbs q2).length c2]) (by simp [results, Try.results57, go_sem, x0, x1, x2]) rfl HRET.out
    · have hne : ((y' : Int) != 0) = true := by rw [bne_iff_ne]; omega
      have hne2 : ((y' : Int) == 0) = false := by rw [beq_eq_false_iff_ne]; omega
      have e3 : (x' : Int).tmod (y' : Int) = ((x' % y' : Nat) : Int) := by rw [Int.tmod_eq_emod_of_nonneg (by omega)]; rfl
      have hm := Nat.mod_lt x' hp
      have hgm : Hid (Nat.gcd y' (x' % y') = G) := Lib.hid (by rw [gcd_mod]; exact hg'.out)
      obtain ⟨T, eT⟩ : ∃ T, x' % y' = T := ⟨_, rfl⟩
      rw [eT] at e3 hm hgm
      clear eT
      go_wp2
      go_quiet (fail)
      go_wp2
      go_roundw
      case rel => exact ⟨y', T, _, rfl, rfl, hy', by omega, hgm, World.drewN_drewN _ _ _⟩
      case measure => simp [intOf]; try omega
set_option maxRecDepth 100000 in
set_option maxHeartbeats 2000000 in
theorem quotient_pos (n : Int) (d : Nat) (w : World) (h1 : -9223372036854775807 ≤ n) (h2 : n ≤ 9223372036854775807) (d1 : 1 ≤ d) (d2 : d ≤ 9223372036854775807) (hn : 0 ≤ n) :
    Calls Try.prog 57 #[.int .i64 n, .int .i64 (d : Int)] w (RetRat w (mkRat n d)) := by
  have hB : Ba * Ba = 18446744073709551616 := by decide
  obtain ⟨s, es⟩ : ∃ s : Nat, n.natAbs = s := ⟨_, rfl⟩
  obtain ⟨G, eG⟩ : ∃ G : Nat, Nat.gcd s d = G := ⟨_, rfl⟩
  have hG : 0 < G := by rw [← eG]; exact Nat.gcd_pos_of_pos_right _ (by omega)
  obtain ⟨q1, e1⟩ : ∃ q : Nat, s / G = q := ⟨_, rfl⟩
  obtain ⟨q2, e2⟩ : ∃ q : Nat, d / G = q := ⟨_, rfl⟩
  have hs : s ≤ 9223372036854775807 := by omega
  have l1 : q1 < Ba * Ba := by rw [hB, ← e1]; exact Nat.lt_of_le_of_lt (Nat.div_le_self _ _) (by omega)
  have l2 : q2 < Ba * Ba := by rw [hB, ← e2]; exact Nat.lt_of_le_of_lt (Nat.div_le_self _ _) (by omega)
  obtain ⟨r, er⟩ : ∃ r : Rat, mkRat n d = r := ⟨_, rfl⟩
  obtain ⟨a1, a2, a3⟩ := mkRat_abs (n := n) (d := d) (by omega)
  rw [er, es, eG] at a1 a3
  rw [er] at a2
  rw [e1] at a1
  rw [e2] at a3
  have a2' : decide (r.num < 0) = false := by rw [decide_eq_false_iff_not, a2]; omega
  have t1 : ((s : Nat) : Int) / ((G : Nat) : Int) = ((q1 : Nat) : Int) := by rw [← e1]; rfl
  have t2 : ((d : Nat) : Int) / ((G : Nat) : Int) = ((q2 : Nat) : Int) := by rw [← e2]; rfl
  have t1' : ((s : Nat) : Int).tdiv ((G : Nat) : Int) = ((q1 : Nat) : Int) := by rw [← e1]; rfl
  have t2' : ((d : Nat) : Int).tdiv ((G : Nat) : Int) = ((q2 : Nat) : Int) := by rw [← e2]; rfl
  rw [er]
  have dn : decide (n < 0) = false := by rw [decide_eq_false_iff_not]; omega
  obtain rfl : n = (s : Int) := by omega
  have A1 := Lib.hid a1
  have A2 := Lib.hid a2'
  have A3 := Lib.hid a3
  have EG := Lib.hid eG
  have L1 := Lib.hid l1
  have L2 := Lib.hid l2
  have T1 := Lib.hid t1
  have T2 := Lib.hid t2
  have WN := trivial
  have HG := Lib.hid hG
  have WD := Lib.hid (show IntKind.u64.wrap ((d : Nat) : Int) = (d : Int) by rw [IntKind.wrap_u64]; omega)
  have WS := Lib.hid (show IntKind.u64.wrap ((s : Nat) : Int) = (s : Int) by rw [IntKind.wrap_u64]; omega)
  have HS := Lib.hid hs
  have HD := Lib.hid d2
  clear a1 a2 a2' a3 eG l1 l2 hB es er e1 e2 h1 h2 hs d2 
  obtain ⟨W, hW, hbW, hsz, hr⟩ := rbox0 w
  have HW := Lib.hid hW
  have jw : w.heap.size < W.heap.size := by omega
  clear hW hsz
  go_enter Try.func57, Try.ntmps57
  go_wp2_with fail
  rw [HW.out]
  try rw [WS.out]
  try rw [WD.out]
  clear HW
  go_loopw [6, 7] (fun x y wi => ∃ (x' y' k : Nat), x = .int .u64 x' ∧ y = .int .u64 y' ∧ x' ≤ 18446744073709551615 ∧ y' ≤ 18446744073709551615 ∧ Hid (Nat.gcd x' y' = G) ∧ wi = W.drewN k) (fun _ y _ => (intOf y).toNat)
  case atStart => exact ⟨d, s, 0, rfl, rfl, by have := HD.out; omega, by have := HS.out; omega, Lib.hid (by rw [Nat.gcd_comm]; exact EG.out), rfl⟩
  case round =>
    obtain ⟨x', y', k, rfl, rfl, hx', hy', hg', rfl⟩ := hrel
    rcases Nat.eq_zero_or_pos y' with rfl | hp
    · obtain rfl : x' = G := by rw [← hg'.out, Nat.gcd_zero_right]
      have gz : ((x' : Int) == 0) = false := by rw [beq_eq_false_iff_ne]; omega
      have hbk : Below w.heap.size w (W.drewN k) := below_drewN hbW k
      have hrk : RatAt (W.drewN k) w.heap.size false (.slice none 0 0) (.slice none 0 0) := hr.keep (below_drewN (Below.refl _ _) k)
      obtain ⟨U, hU⟩ : ∃ U, W.drewN k = U := ⟨_, rfl⟩
      rw [hU] at hbk hrk
      rw [hU]
      clear hU hr hbW jw
      have jw := hrk.lt
      have hBel : Below U.heap.size U U.drew := (Below.refl _ _).drew
      have tk0 : True := trivial
      have wd := WD.out
      have wq1 : IntKind.u64.wrap ((q1 : Nat) : Int) = (q1 : Int) := by have h := L1.out; rw [show Ba * Ba = 18446744073709551616 by decide] at h; rw [IntKind.wrap_u64]; omega
      have wq2 : IntKind.u64.wrap ((q2 : Nat) : Int) = (q2 : Int) := by have h := L2.out; rw [show Ba * Ba = 18446744073709551616 by decide] at h; rw [IntKind.wrap_u64]; omega
      have gz2 : ¬ (x' : Int) = 0 := by omega
      have gz3 : ¬ x' = 0 := by omega
      clear T1 T2 HG hg' hx' hy' HS HD WS EG hG d1 hn
      go_wp2_with fail
      go_region_held3 (fun _ => True) (first | trivial | go_keep)
        (first
          | (go_at_call 91; have _t := tk0; clear tk0; refine (FromUint64_c q1 _ L1.out).mono ?_; rintro e w1 ⟨B1, c1, rfl, o1, b1⟩; have p1 := o1.mono (lo' := w.heap.size) (Nat.le_trans hbk.size hBel.size); replace hBel := hBel.trans (b1.mono hBel.size))
          | (go_at_call 91; refine (FromUint64_c q2 _ L2.out).mono ?_; rintro e w2 ⟨B2, c2, rfl, o2, b2⟩; have p2 := o2.mono (lo' := w.heap.size) (Nat.le_trans hbk.size hBel.size); have hBel' : Below U.heap.size U w2 := hBel.trans (b2.mono hBel.size); clear hBel; have hBel := hBel'; clear hBel'; have hf := hrk.keep hBel; obtain ⟨x0, x1, x2, x3, x4, x5⟩ := id hf))
      rename_i hHeld
      clear hHeld
      have hret := ret_rat (w := w) (r := r) hf (Nat.le_refl _) (by rw [A1.out]; exact p1.below b2) (by rw [A3.out]; exact p2) (hbk.trans (hBel.mono hbk.size))
      rw [A1.out, A2.out, A3.out] at hret
      have HRET := Lib.hid hret
      clear hret p1 p2 o1 o2 b1 b2 hBel hf hrk
      go_wp2_with fail
      exact bodyPost_ret (v := .agg #[.bool false, .slice B1 (limbs q1).length c1, .slice B2 (limbs q2).length c2]) (by simp [results, Try.results57, go_sem, x0, x1, x2]) rfl HRET.out
    · have hne : ((y' : Int) != 0) = true := by rw [bne_iff_ne]; omega
      have hne2 : ((y' : Int) == 0) = false := by rw [beq_eq_false_iff_ne]; omega
      have e3 : (x' : Int).tmod (y' : Int) = ((x' % y' : Nat) : Int) := by rw [Int.tmod_eq_emod_of_nonneg (by omega)]; rfl
      have hm := Nat.mod_lt x' hp
      have hgm : Hid (Nat.gcd y' (x' % y') = G) := Lib.hid (by rw [gcd_mod]; exact hg'.out)
      obtain ⟨T, eT⟩ : ∃ T, x' % y' = T := ⟨_, rfl⟩
      rw [eT] at e3 hm hgm
      clear eT
      go_wp2
      go_quiet (fail)
      go_wp2
      go_roundw
      case rel => exact ⟨y', T, _, rfl, rfl, hy', by omega, hgm, World.drewN_drewN _ _ _⟩
      case measure => simp [intOf]; try omega

theorem quotient_c (n : Int) (d : Nat) (w : World) (r : Rat) (h1 : -9223372036854775807 ≤ n) (h2 : n ≤ 9223372036854775807) (d1 : 1 ≤ d) (d2 : d ≤ 9223372036854775807) (hr : mkRat n d = r) :
    Calls Try.prog 57 #[.int .i64 n, .int .i64 (d : Int)] w (RetRat w r) := by
  subst hr
  rcases Int.lt_or_le n 0 with h | h
  · exact quotient_neg n d w h1 h2 d1 d2 h
  · exact quotient_pos n d w h1 h2 d1 d2 h
/-- the quotient as small's results are handed to it -/
theorem quotient_i (n e : Int) (w : World) (r : Rat) (h1 : -9223372036854775807 ≤ n) (h2 : n ≤ 9223372036854775807) (d1 : 1 ≤ e) (d2 : e ≤ 9223372036854775807) (hr : mkRat n e.toNat = r) :
    Calls Try.prog 57 #[.int .i64 n, .int .i64 e] w (RetRat w r) := by
  have k := quotient_c n e.toNat w r h1 h2 (by omega) (by omega) hr
  rw [show ((e.toNat : Nat) : Int) = e by omega] at k
  exact k

/-- what parts returns: a numerator, and a denominator other than 0 -/
def RetParts (w : World) (r : Rat) (K : Nat) (e : Ending) (w' : World) : Prop :=
  ∃ q A xs c B ys d, e = .returned (.tuple #[.agg #[.bool q, .slice A xs.length c], .slice B ys.length d]) ∧ Lim w' A c xs ∧ Lim w' B d ys ∧ xs.length ≤ K ∧ ys.length ≤ K ∧ val ys ≠ 0 ∧ rv q xs ys = r ∧ Below w.heap.size w w'
theorem rbox1i (w : World) (p : Bool) (u v : Value) :
    ∃ W, (w.alloc (.cells #[.bool p, u, v] 26)).alloc (.cells #[.bool false, .slice none 0 0] 24) = W ∧ Below w.heap.size w W ∧ W.heap.size = w.heap.size + 2 ∧ RatAt W w.heap.size p u v ∧ IntAt W (w.heap.size + 1) false (.slice none 0 0) := by
  refine ⟨_, rfl, bel2 _ _ _, by simp, ?_, ?_⟩
  · refine ⟨?_, ?_, ?_, ?_, ?_, ?_⟩ <;> go_simp
  · refine ⟨?_, ?_, ?_, ?_⟩ <;> go_simp
set_option maxRecDepth 100000 in
set_option maxHeartbeats 1000000 in
theorem parts_c (p : Bool) (A B : Option Addr) (xs ys : List Nat) (c d : Nat) (w : World) (r : Rat) (K : Nat) (ha : Lim w A c xs) (hb : Lim w B d ys) (hs : xs.length ≤ K) (ht : ys.length ≤ K) (hK : 1 ≤ K) (hr : rv p xs ys = r) :
    Calls Try.prog 59 #[.agg #[.bool p, .slice A xs.length c, .slice B ys.length d]] w (RetParts w r K) := by
  obtain ⟨W, hW, hbW, hsz, h1, h2⟩ := rbox1i w p (.slice A xs.length c) (.slice B ys.length d)
  have j0 := h1.lt
  have j1 := h2.lt
  have HW := Lib.hid hW
  have HR := Lib.hid hr
  clear hW hsz hr
  replace ha := ha.below hbW
  replace hb := hb.below hbW
  go_enter Try.func59, Try.ntmps59
  by_cases h0 : val ys = 0
  · have hc : cmpN (val ys) (val []) = 0 := by rw [h0]; decide
    have H0 := Lib.hid h0
    clear h0
    go_wp2_with fail
    rw [HW.out]
    refine (Compare_n B none ys [] d 0 W _ _ 0 hb (Lim.nil _ _) rfl rfl hc).mono ?_
    rintro e w1 ⟨rfl, b1⟩
    obtain ⟨q0, q1, q2, q3⟩ := h2.keep b1
    have k1 := Nat.lt_of_lt_of_le j1 b1.size
    go_wp2_with fail
    have hb2 := below_put2 (hbW.trans (b1.mono hbW.size)) (show w.heap.size ≤ w.heap.size + 1 by omega) (.bool false) (.slice none 0 0)
    have hfin := hb2.alloc hb2.size (.cells #[.int .u32 1] 40)
    have fi := ((h2.keep b1).put false (.slice none 0 0)).alloc (.cells #[.int .u32 1] 40)
    have hl := lit1 ((w1.setCell ⟨w.heap.size + 1, 0, none⟩ (.bool false)).setCell ⟨w.heap.size + 1, 1, none⟩ (.slice none 0 0)) [1] (Lb_lit _ (by decide)) (by decide)
    exact bodyPost_ret (v := .tuple #[.agg #[.bool false, .slice none 0 0], .slice (some ⟨w1.heap.size, 0, none⟩) 1 1]) (by simp [results, Try.results59, go_sem, fi.c0, fi.c1]) rfl ⟨false, none, [], 0, some ⟨w1.heap.size, 0, none⟩, [1], 1, rfl, Lim.nil _ _, by simpa [cellsOf] using hl, Nat.zero_le _, hK, by decide, by rw [← HR.out, rv_den0 H0.out]; rfl, hfin⟩
  · have hc : cmpN (val ys) (val []) = 1 := by rw [cmpN_gt (by rw [show val [] = 0 from rfl]; omega)]
    have H0 := Lib.hid h0
    clear h0
    go_wp2_with fail
    rw [HW.out]
    refine (Compare_n B none ys [] d 0 W _ _ 1 hb (Lim.nil _ _) rfl rfl hc).mono ?_
    rintro e w1 ⟨rfl, b1⟩
    obtain ⟨r0, r1, r2, r3, r4, r5⟩ := h1.keep b1
    obtain ⟨q0, q1, q2, q3⟩ := h2.keep b1
    have k1 := Nat.lt_of_lt_of_le j1 b1.size
    go_wp2_with fail
    go_region
    go_wp2_with fail
    have hfin := (below_put2 (hbW.trans (b1.mono hbW.size)) (show w.heap.size ≤ w.heap.size + 1 by omega) (.bool p) (.slice A xs.length c)).drew
    have i2 := h2.keep b1
    have la := ((ha.below b1).put i2 p (.slice A xs.length c)).drewN 1
    have lb := ((hb.below b1).put i2 p (.slice A xs.length c)).drewN 1
    exact bodyPost_ret (v := .tuple #[.agg #[.bool p, .slice A xs.length c], .slice B ys.length d]) (by simp [results, Try.results59, go_sem, q0, q1]) rfl ⟨p, A, xs, c, B, ys, d, rfl, la, lb, hs, ht, H0.out, HR.out, hfin⟩

/- Contracts of rational.lowest, Norm, Sign. -/

theorem IntAt.put1 {N : Nat} {w : World} {b : Bool} {s : Value} (h : IntAt w N b s) (s' : Value) : IntAt (w.setCell ⟨N, 1, none⟩ s') N b s' := by
  obtain ⟨h0, h1, h2, h3⟩ := h
  refine ⟨?_, ?_, ?_, ?_⟩ <;> go_simp
theorem RatAt.far1 {N M i : Nat} {w : World} {b : Bool} {s t : Value} (h : RatAt w N b s t) (hM : N ≠ M) (u : Value) : RatAt (w.setCell ⟨M, i, none⟩ u) N b s t := by
  have h1 := Below.heap_setCell w ⟨M, i, none⟩ u N hM
  exact ⟨by rw [← h.c0]; simp only [World.cell?, h1], by rw [← h.c1]; simp only [World.cell?, h1], by rw [← h.c2]; simp only [World.cell?, h1], by rw [← h.f0]; simp only [World.frozen?, h1], by rw [← h.f1]; simp only [World.frozen?, h1], by rw [← h.f2]; simp only [World.frozen?, h1]⟩
theorem IntAt.far1 {N M i : Nat} {w : World} {b : Bool} {s : Value} (h : IntAt w N b s) (hM : N ≠ M) (u : Value) : IntAt (w.setCell ⟨M, i, none⟩ u) N b s := by
  have h1 := Below.heap_setCell w ⟨M, i, none⟩ u N hM
  exact ⟨by rw [← h.c0]; simp only [World.cell?, h1], by rw [← h.c1]; simp only [World.cell?, h1], by rw [← h.f0]; simp only [World.frozen?, h1], by rw [← h.f1]; simp only [World.frozen?, h1]⟩
theorem rboxIR (w : World) (p : Bool) (u : Value) :
    ∃ W, (w.alloc (.cells #[.bool p, u] 24)).alloc (.cells #[.bool false, .slice none 0 0, .slice none 0 0] 26) = W ∧ Below w.heap.size w W ∧ W.heap.size = w.heap.size + 2 ∧ IntAt W w.heap.size p u ∧ RatAt W (w.heap.size + 1) false (.slice none 0 0) (.slice none 0 0) := by
  refine ⟨_, rfl, bel2 _ _ _, by simp, ?_, ?_⟩
  · refine ⟨?_, ?_, ?_, ?_⟩ <;> go_simp
  · refine ⟨?_, ?_, ?_, ?_, ?_, ?_⟩ <;> go_simp

theorem RatAt.put {N : Nat} {w : World} {b : Bool} {s t : Value} (h : RatAt w N b s t) (b' : Bool) (s' t' : Value) : RatAt (((w.setCell ⟨N, 0, none⟩ (.bool b')).setCell ⟨N, 1, none⟩ s').setCell ⟨N, 2, none⟩ t') N b' s' t' := by
  obtain ⟨h0, h1, h2, h3, h4, h5⟩ := h
  refine ⟨?_, ?_, ?_, ?_, ?_, ?_⟩ <;> go_simp
theorem ret_zero {w w1 : World} {N : Nat} (hl : w.heap.size ≤ N) (hb : Below w.heap.size w w1) :
    RetRat w 0 (.returned (.agg #[.bool false, .slice none 0 0, .slice (some ⟨w1.heap.size, 0, none⟩) 1 1]))
      ((((w1.setCell ⟨N, 0, none⟩ (.bool false)).setCell ⟨N, 1, none⟩ (.slice none 0 0)).setCell ⟨N, 2, none⟩ (.slice (some ⟨w1.heap.size, 0, none⟩) 1 1)).alloc (.cells #[.int .u32 1] 40)) := by
  have h3 := below_put3 hb hl (.bool false) (.slice none 0 0) (.slice (some ⟨w1.heap.size, 0, none⟩) 1 1)
  have hrow := (Row.new (((w1.setCell ⟨N, 0, none⟩ (.bool false)).setCell ⟨N, 1, none⟩ (.slice none 0 0)).setCell ⟨N, 2, none⟩ (.slice (some ⟨w1.heap.size, 0, none⟩) 1 1)) [1]).own (lo := w.heap.size) (Lb_lit _ (by decide)) h3.size (by decide)
  have e1 : limbs 1 = [1] := limbs_lit' [1] (by decide) (by decide)
  refine ⟨none, 0, some ⟨w1.heap.size, 0, none⟩, 1, ?_, ?_, ?_, h3.alloc h3.size _⟩
  · show _ = Ending.returned (.agg #[.bool (decide ((0 : Int) < 0)), .slice none (limbs 0).length 0, .slice _ (limbs 1).length 1])
    rw [e1, limbs_zero]; rfl
  · show Own _ _ _ _ (limbs 0)
    rw [limbs_zero]; exact Own.nil _ _ _
  · show Own _ _ _ _ (limbs 1)
    rw [e1]
    simpa [cellsOf] using hrow

set_option maxRecDepth 100000 in
set_option maxHeartbeats 2000000 in
theorem lowest_c (p : Bool) (A B : Option Addr) (xs ys : List Nat) (c d : Nat) (w : World) (r : Rat) (K : Nat) (ha : Lim w A c xs) (hb : Lim w B d ys) (hs : xs.length ≤ K) (ht : ys.length ≤ K) (hK : K ≤ 70368744177660) (h0 : val ys ≠ 0) (hr : rv p xs ys = r) :
    Calls Try.prog 58 #[.agg #[.bool p, .slice A xs.length c], .slice B ys.length d] w (RetRat w r) := by
  obtain ⟨n, en⟩ : ∃ n, iv p xs = n := ⟨_, rfl⟩
  obtain ⟨D, eD⟩ : ∃ D, val ys = D := ⟨_, rfl⟩
  have zn : (limbs n.natAbs).length ≤ K := by rw [← en]; exact iv_len ha.lb hs
  have zD : (limbs D).length ≤ K := by rw [← eD]; exact Nat.le_trans (limbs_length_le hb.lb) ht
  unfold rv at hr
  rw [en, eD] at hr
  rw [eD] at h0
  obtain ⟨a1, a2, a3⟩ := mkRat_abs (n := n) h0
  rw [hr] at a1 a2 a3
  obtain ⟨G, eG⟩ : ∃ G, Nat.gcd n.natAbs D = G := ⟨_, rfl⟩
  rw [eG] at a1 a3
  have hG : 0 < G := by rw [← eG]; exact Nat.gcd_pos_of_pos_right _ (by omega)
  have zG : (limbs G).length ≤ K := gcd_sz zn zD eG (Nat.le_refl _)
  have a2' : decide (r.num < 0) = decide (n < 0) := decide_eq_decide.2 a2
  have EN := Lib.hid en
  have ED := Lib.hid eD
  have EG := Lib.hid eG
  have R1 := Lib.hid a1
  have R2 := Lib.hid a2'
  have R3 := Lib.hid a3
  have HR := Lib.hid hr
  have H0 := Lib.hid h0
  clear en eD eG a1 a2 a2' a3 hr h0
  obtain ⟨W, hW, hbW, hsz, i2, i4⟩ := rboxIR w p (.slice A xs.length c)
  have j2 := i2.lt
  have j4 := i4.lt
  have HW := Lib.hid hW
  clear hW hsz
  replace ha := ha.below hbW
  replace hb := hb.below hbW
  go_enter Try.func58, Try.ntmps58
  go_wp2_with fail
  rw [HW.out]
  refine (INorm_n p A xs c _ n K ha hs EN.out (by omega)).mono ?_
  rintro e w1 ⟨A1, c1, rfl, r1, b1⟩
  go_wp2_with fail
  refine (Trim_n B ys d _ D K (hb.below b1) ht ED.out (by omega)).mono ?_
  rintro e w2 ⟨A2, c2, rfl, r2, b2⟩
  have b02 := b1.trans (b2.mono b1.size)
  have t2 := i2.keep b02
  have t4 := i4.keep b02
  have o1 := (r1.below b2).mono (lo' := w.heap.size) hbW.size
  have o2 := r2.mono (lo' := w.heap.size) (Nat.le_trans hbW.size b1.size)
  have hb2 := hbW.trans (b02.mono hbW.size)
  obtain ⟨x0, x1, x2, x3⟩ := id t2
  have s1 := o1.put t2 (decide (n < 0)) (.slice A1 (limbs n.natAbs).length c1)
  have s2 := o2.put t2 (decide (n < 0)) (.slice A1 (limbs n.natAbs).length c1)
  have v2 := t2.put (decide (n < 0)) (.slice A1 (limbs n.natAbs).length c1)
  have v4 := (t4.far1 (M := w.heap.size) (i := 0) (by omega) (.bool (decide (n < 0)))).far1 (M := w.heap.size) (i := 1) (by omega) (.slice A1 (limbs n.natAbs).length c1)
  have hb3 := below_put2 hb2 (Nat.le_refl _) (.bool (decide (n < 0))) (.slice A1 (limbs n.natAbs).length c1)
  obtain ⟨w3, hw3⟩ : ∃ w3, (w2.setCell ⟨w.heap.size, 0, none⟩ (.bool (decide (n < 0)))).setCell ⟨w.heap.size, 1, none⟩ (.slice A1 (limbs n.natAbs).length c1) = w3 := ⟨_, rfl⟩
  rw [hw3] at s1 s2 v2 v4 hb3
  have k2 := v2.lt
  have k4 := v4.lt
  clear r1 r2 b1 b2 b02 t2 t4 o1 o2 i2 i4 hb2 ha hb
  obtain ⟨y0, y1, y2, y3⟩ := id v2
  obtain ⟨z0, z1, z2, z3, z4, z5⟩ := id v4
  by_cases hz : n.natAbs = 0
  · have hn0 : n = 0 := by omega
    have hl : (limbs n.natAbs).length = 0 := by rw [hz, limbs_zero]; rfl
    have hl2 : ((limbs n.natAbs).length : Int) = 0 := by omega
    have hr0 : r = 0 := by rw [← HR.out, hn0]; exact Rat.zero_mkRat _
    have HR0 := Lib.hid hr0
    clear hz hr0 hn0 hl
    go_wp2_with fail
    clear hw3
    have fi := (v4.put false (.slice none 0 0) (.slice (some ⟨w3.heap.size, 0, none⟩) 1 1)).keep (bel1 _ (.cells #[.int .u32 1] 40))
    have hret := ret_zero (w := w) (N := w.heap.size + 1) (by omega) hb3
    rw [HR0.out]
    exact bodyPost_ret (v := .agg #[.bool false, .slice none 0 0, .slice (some ⟨w3.heap.size, 0, none⟩) 1 1]) (by simp [results, Try.results58, go_sem, fi.c0, fi.c1, fi.c2]) rfl hret
  · have hp : 0 < (limbs n.natAbs).length := List.length_pos_iff.2 (fun e => hz (by have := limbs_eq_nil.1 e; exact this))
    have hz2 : ¬ ((limbs n.natAbs).length : Int) = 0 := by omega
    clear hz
    go_wp2_with fail
    refine (GCD_n A1 A2 (limbs n.natAbs) (limbs D) c1 c2 _ n.natAbs D G K K s1.lim s2.lim zn zD (val_limbs _) (val_limbs _) EG.out hK hK).mono ?_
    rintro e w4 ⟨A3, c3, rfl, r3, b3⟩
    have v2' := v2.keep b3
    have v4' := v4.keep b3
    have s1' := s1.below b3
    have s2' := s2.below b3
    have hb4 := hb3.trans (b3.mono hb3.size)
    have o3 := r3.mono (lo' := w.heap.size) hb3.size
    clear x0 x1 x2 x3 y0 y1 y2 y3 z0 z1 z2 z3 z4 z5 v2 v4 s1 s2 b3 r3 hw3
    obtain ⟨y0, y1, y2, y3⟩ := id v2'
    obtain ⟨z0, z1, z2, z3, z4, z5⟩ := id v4'
    by_cases hg1 : G = 1
    · have e1 : limbs G = [1] := by rw [hg1]; exact limbs_lit' [1] (by decide) (by decide)
      have hl1 : ((limbs G).length : Int) = 1 := by rw [e1]; rfl
      obtain ⟨bg, og, eA, _, hbg, hcg⟩ := o3.cells (by omega)
      have hc0 := (hcg 0 (by omega)).1
      rw [Nat.add_zero, e1] at hc0
      have hc0' : w4.cell? ⟨bg, og, none⟩ = some (.int .u32 1) := hc0
      subst eA
      have Q1 := Lib.hid (show r.num.natAbs = n.natAbs by rw [R1.out, hg1, Nat.div_one])
      have Q3 := Lib.hid (show r.den = D by rw [R3.out, hg1, Nat.div_one])
      have i0 : (0 : Int) < ((limbs G).length : Int) := by omega
      clear hcg hc0 e1 hg1 o3
      have hret := ret_rat (w := w) (r := r) v4' (show w.heap.size ≤ w.heap.size + 1 by omega) (A := A1) (c := c1) (A' := A2) (c' := c2) (by rw [Q1.out]; exact s1') (by rw [Q3.out]; exact s2') hb4
      rw [Q1.out, R2.out, Q3.out] at hret
      have HRET := Lib.hid hret
      clear hret
      go_wp2_with fail
      exact bodyPost_ret (v := .agg #[.bool (decide (n < 0)), .slice A1 (limbs n.natAbs).length c1, .slice A2 (limbs D).length c2]) (by simp [results, Try.results58, go_sem, z0, z1, z2]) rfl HRET.out
    · have hgn : G ≠ 0 := by omega
      by_cases hl1 : (limbs G).length = 1
      · obtain ⟨x, ex⟩ := List.length_eq_one_iff.1 hl1
        have hx : x ≠ 1 := by
          intro h1
          have hv := val_limbs G
          rw [ex, h1] at hv
          exact hg1 (by rw [← hv]; rfl)
        have hl2 : ((limbs G).length : Int) = 1 := by omega
        obtain ⟨bg, og, eA, hlo, hbg, hcg⟩ := id (o3.cells (by omega))
        have hc0 := (hcg 0 (by omega)).1
        rw [Nat.add_zero, ex] at hc0
        have hc0' : w4.cell? ⟨bg, og, none⟩ = some (.int .u32 ((x : Nat) : Int)) := hc0
        have hx2 : ((x : Int) != 1) = true := by rw [bne_iff_ne]; omega
        have i0 : (0 : Int) < ((limbs G).length : Int) := by omega
        subst eA
        clear hcg hc0 ex hl1 hx
        have e1 := Nat.div_le_self n.natAbs G
        obtain ⟨N', eN⟩ : ∃ q, n.natAbs / G = q := ⟨_, rfl⟩
        obtain ⟨D', eD'⟩ : ∃ q, D / G = q := ⟨_, rfl⟩
        have Q1 := Lib.hid (show r.num.natAbs = N' by rw [R1.out, eN])
        have Q3 := Lib.hid (show r.den = D' by rw [R3.out, eD'])
        have EN' := Lib.hid eN
        have ED' := Lib.hid eD'
        clear eN eD' e1
        go_wp2_with fail
        refine (DivMod_n A1 (some ⟨bg, og, none⟩) (limbs n.natAbs) (limbs G) c1 c3 _ n.natAbs G N' (n.natAbs % G) K s1'.lim o3.lim zn (val_limbs _) (val_limbs _) (by omega) EN'.out rfl (by omega)).mono ?_
        rintro e w5 ⟨A5, c5, A6, c6, rfl, r5, r6, b5⟩
        have u2 := v2'.keep b5
        have u4 := v4'.keep b5
        have q2 := s2'.below b5
        have q3 := o3.below b5
        have q5 := r5.mono (lo' := w.heap.size) hb4.size
        have hb5 := hb4.trans (b5.mono hb4.size)
        obtain ⟨y0, y1, y2, y3⟩ := id u2
        have k2' := u2.lt
        have k4' := u4.lt
        have p2 := q2.store (p := ⟨w.heap.size, 1, none⟩) (u := .slice A5 (limbs N').length c5) u2.c1 (by intro z e; cases e)
        have p3 := q3.store (p := ⟨w.heap.size, 1, none⟩) (u := .slice A5 (limbs N').length c5) u2.c1 (by intro z e; cases e)
        have p5 := q5.store (p := ⟨w.heap.size, 1, none⟩) (u := .slice A5 (limbs N').length c5) u2.c1 (by intro z e; cases e)
        have t2 := u2.put1 (.slice A5 (limbs N').length c5)
        have t4 := u4.far1 (M := w.heap.size) (i := 1) (by omega) (.slice A5 (limbs N').length c5)
        have hb6 := hb5.setCell (p := ⟨w.heap.size, 1, none⟩) (Nat.le_refl _) (.slice A5 (limbs N').length c5)
        obtain ⟨w6, hw6⟩ : ∃ w6, w5.setCell ⟨w.heap.size, 1, none⟩ (.slice A5 (limbs N').length c5) = w6 := ⟨_, rfl⟩
        rw [hw6] at p2 p3 p5 t2 t4 hb6
        clear r5 r6 b5 u2 u4 q2 q3 q5 hb5 s1' s2' o3 v2' v4' hb4
        go_wp2_with fail
        refine (DivMod_n A2 (some ⟨bg, og, none⟩) (limbs D) (limbs G) c2 c3 _ D G D' (D % G) K p2.lim p3.lim zD (val_limbs _) (val_limbs _) (by omega) ED'.out rfl (by omega)).mono ?_
        rintro e w7 ⟨A7, c7, A8, c8, rfl, r7, r8, b7⟩
        clear hw6 y0 y1 y2 y3
        have f2 := t2.keep b7
        have f4 := t4.keep b7
        have f5 := p5.below b7
        have f7 := r7.mono (lo' := w.heap.size) hb6.size
        have hb7 := hb6.trans (b7.mono hb6.size)
        obtain ⟨y0, y1, y2, y3⟩ := id f2
        obtain ⟨x0, x1, x2, x3, x4, x5⟩ := id f4
        have m2 := f2.lt
        have m4 := f4.lt
        clear r7 r8 b7 p2 p3 p5 t2 t4
        have hret := ret_rat (w := w) (r := r) f4 (show w.heap.size ≤ w.heap.size + 1 by omega) (A := A5) (c := c5) (A' := A7) (c' := c7) (by rw [Q1.out]; exact f5) (by rw [Q3.out]; exact f7) hb7
        rw [Q1.out, R2.out, Q3.out] at hret
        have HRET := Lib.hid hret
        clear hret
        go_wp2_with fail
        exact bodyPost_ret (v := .agg #[.bool (decide (n < 0)), .slice A5 (limbs N').length c5, .slice A7 (limbs D').length c7]) (by simp [results, Try.results58, go_sem, x0, x1, x2]) rfl HRET.out
      · have hl2 : (((limbs G).length : Int) != 1) = true := by rw [bne_iff_ne]; omega
        clear hl1
        have e1 := Nat.div_le_self n.natAbs G
        obtain ⟨N', eN⟩ : ∃ q, n.natAbs / G = q := ⟨_, rfl⟩
        obtain ⟨D', eD'⟩ : ∃ q, D / G = q := ⟨_, rfl⟩
        have Q1 := Lib.hid (show r.num.natAbs = N' by rw [R1.out, eN])
        have Q3 := Lib.hid (show r.den = D' by rw [R3.out, eD'])
        have EN' := Lib.hid eN
        have ED' := Lib.hid eD'
        clear eN eD' e1
        go_wp2_with fail
        refine (DivMod_n A1 A3 (limbs n.natAbs) (limbs G) c1 c3 _ n.natAbs G N' (n.natAbs % G) K s1'.lim o3.lim zn (val_limbs _) (val_limbs _) (by omega) EN'.out rfl (by omega)).mono ?_
        rintro e w5 ⟨A5, c5, A6, c6, rfl, r5, r6, b5⟩
        have u2 := v2'.keep b5
        have u4 := v4'.keep b5
        have q2 := s2'.below b5
        have q3 := o3.below b5
        have q5 := r5.mono (lo' := w.heap.size) hb4.size
        have hb5 := hb4.trans (b5.mono hb4.size)
        obtain ⟨y0, y1, y2, y3⟩ := id u2
        have k2' := u2.lt
        have k4' := u4.lt
        have p2 := q2.store (p := ⟨w.heap.size, 1, none⟩) (u := .slice A5 (limbs N').length c5) u2.c1 (by intro z e; cases e)
        have p3 := q3.store (p := ⟨w.heap.size, 1, none⟩) (u := .slice A5 (limbs N').length c5) u2.c1 (by intro z e; cases e)
        have p5 := q5.store (p := ⟨w.heap.size, 1, none⟩) (u := .slice A5 (limbs N').length c5) u2.c1 (by intro z e; cases e)
        have t2 := u2.put1 (.slice A5 (limbs N').length c5)
        have t4 := u4.far1 (M := w.heap.size) (i := 1) (by omega) (.slice A5 (limbs N').length c5)
        have hb6 := hb5.setCell (p := ⟨w.heap.size, 1, none⟩) (Nat.le_refl _) (.slice A5 (limbs N').length c5)
        obtain ⟨w6, hw6⟩ : ∃ w6, w5.setCell ⟨w.heap.size, 1, none⟩ (.slice A5 (limbs N').length c5) = w6 := ⟨_, rfl⟩
        rw [hw6] at p2 p3 p5 t2 t4 hb6
        clear r5 r6 b5 u2 u4 q2 q3 q5 hb5 s1' s2' o3 v2' v4' hb4
        go_wp2_with fail
        refine (DivMod_n A2 A3 (limbs D) (limbs G) c2 c3 _ D G D' (D % G) K p2.lim p3.lim zD (val_limbs _) (val_limbs _) (by omega) ED'.out rfl (by omega)).mono ?_
        rintro e w7 ⟨A7, c7, A8, c8, rfl, r7, r8, b7⟩
        clear hw6 y0 y1 y2 y3
        have f2 := t2.keep b7
        have f4 := t4.keep b7
        have f5 := p5.below b7
        have f7 := r7.mono (lo' := w.heap.size) hb6.size
        have hb7 := hb6.trans (b7.mono hb6.size)
        obtain ⟨y0, y1, y2, y3⟩ := id f2
        obtain ⟨x0, x1, x2, x3, x4, x5⟩ := id f4
        have m2 := f2.lt
        have m4 := f4.lt
        clear r7 r8 b7 p2 p3 p5 t2 t4
        have hret := ret_rat (w := w) (r := r) f4 (show w.heap.size ≤ w.heap.size + 1 by omega) (A := A5) (c := c5) (A' := A7) (c' := c7) (by rw [Q1.out]; exact f5) (by rw [Q3.out]; exact f7) hb7
        rw [Q1.out, R2.out, Q3.out] at hret
        have HRET := Lib.hid hret
        clear hret
        go_wp2_with fail
        exact bodyPost_ret (v := .agg #[.bool (decide (n < 0)), .slice A5 (limbs N').length c5, .slice A7 (limbs D').length c7]) (by simp [results, Try.results58, go_sem, x0, x1, x2]) rfl HRET.out

/- Contracts of rational.Norm, Sign, floor, Floor. -/

/-- storing a Rat that was returned into the result -/
theorem ret_move {w W w1 : World} {r : Rat} {N : Nat} {b : Bool} {B C : Option Addr} {m n k l : Nat} {A A' : Option Addr} {c c' : Nat} (hN : RatAt w1 N b (.slice B m n) (.slice C k l)) (hl : w.heap.size ≤ N) (o1 : Own W.heap.size w1 A c (limbs r.num.natAbs)) (o2 : Own W.heap.size w1 A' c' (limbs r.den)) (hW : w.heap.size ≤ W.heap.size) (hb : Below w.heap.size w w1) :
    RetRat w r (.returned (.agg #[.bool (decide (r.num < 0)), .slice A (limbs r.num.natAbs).length c, .slice A' (limbs r.den).length c']))
      (((w1.setCell ⟨N, 0, none⟩ (.bool (decide (r.num < 0)))).setCell ⟨N, 1, none⟩ (.slice A (limbs r.num.natAbs).length c)).setCell ⟨N, 2, none⟩ (.slice A' (limbs r.den).length c')) :=
  ret_rat hN hl (o1.mono hW) (o2.mono hW) hb

set_option maxRecDepth 100000 in
set_option maxHeartbeats 1000000 in
theorem RNorm_c (p : Bool) (A B : Option Addr) (xs ys : List Nat) (c d : Nat) (w : World) (r : Rat) (K : Nat) (ha : Lim w A c xs) (hb : Lim w B d ys) (hs : xs.length ≤ K) (ht : ys.length ≤ K) (h1 : 1 ≤ K) (hK : K ≤ 70368744177660) (hr : rv p xs ys = r) :
    Calls Try.prog 21 #[.agg #[.bool p, .slice A xs.length c, .slice B ys.length d]] w (RetRat w r) := by
  obtain ⟨W, hW, hbW, hsz, i1, i2⟩ := rbox1r w p (.slice A xs.length c) (.slice B ys.length d)
  have j1 := i1.lt
  have j2 := i2.lt
  obtain ⟨x0, x1, x2, _, _, _⟩ := id i1
  have HW := Lib.hid hW
  have HR := Lib.hid hr
  clear hW hsz hr
  replace ha := ha.below hbW
  replace hb := hb.below hbW
  by_cases hsm : val xs ≤ 2147483647 ∧ val ys ≤ 2147483647
  · have HSM := Lib.hid hsm
    clear hsm
    go_enter Try.func21, Try.ntmps21
    go_wp2_with fail
    rw [HW.out]
    refine (small_yes p A B xs ys c d _ ha hb HSM.out).mono ?_
    rintro e w1 ⟨n, q, ⟨s1, s2, s3, s4, s5⟩, rfl, b1⟩
    have HS5 := Lib.hid (s5.trans HR.out)
    clear s5
    go_wp2_with fail
    refine (quotient_i n q _ r (by omega) (by omega) s3 (by omega) HS5.out).mono ?_
    rintro e w2 ⟨A2, c2, B2, d2, rfl, r1, r2, b2⟩
    have b02 := b1.trans (b2.mono b1.size)
    have t2 := i2.keep b02
    obtain ⟨y0, y1, y2, y3, y4, y5⟩ := id t2
    have hret := ret_move (W := w1) t2 (by omega) r1 r2 (Nat.le_trans hbW.size b1.size) (hbW.trans (b02.mono hbW.size))
    have HRET := Lib.hid hret
    clear hret
    go_wp2_with fail
    exact bodyPost_ret (v := .agg #[.bool (decide (r.num < 0)), .slice A2 (limbs r.num.natAbs).length c2, .slice B2 (limbs r.den).length d2]) (by simp [results, Try.results21, go_sem, y0, y1, y2]) rfl HRET.out
  · have HSM := Lib.hid hsm
    clear hsm
    go_enter Try.func21, Try.ntmps21
    go_wp2_with fail
    rw [HW.out]
    refine (small_no p A B xs ys c d _ ha hb HSM.out).mono ?_
    rintro e w1 ⟨rfl, b1⟩
    obtain ⟨z0, z1, z2, _, _, _⟩ := i1.keep b1
    go_wp2_with fail
    refine (parts_c p A B xs ys c d _ r K (ha.below b1) (hb.below b1) hs ht h1 HR.out).mono ?_
    rintro e w2 ⟨q, A', xs', c', B', ys', d', rfl, la, lb, hs', ht', hne, hrv, b2⟩
    go_wp2_with fail
    refine (lowest_c q A' B' xs' ys' c' d' _ r K la lb hs' ht' hK hne hrv).mono ?_
    rintro e w3 ⟨A2, c2, B2, d2, rfl, r1, r2, b3⟩
    have b02 := b1.trans (b2.mono b1.size)
    have b03 := b02.trans (b3.mono b02.size)
    have t2 := i2.keep b03
    obtain ⟨y0, y1, y2, y3, y4, y5⟩ := id t2
    have hret := ret_move (W := w2) t2 (by omega) r1 r2 (Nat.le_trans hbW.size b02.size) (hbW.trans (b03.mono hbW.size))
    have HRET := Lib.hid hret
    clear hret
    go_wp2_with fail
    exact bodyPost_ret (v := .agg #[.bool (decide (r.num < 0)), .slice A2 (limbs r.num.natAbs).length c2, .slice B2 (limbs r.den).length d2]) (by simp [results, Try.results21, go_sem, y0, y1, y2]) rfl HRET.out

/-- the sign of a rational number -/
theorem mkRat_sgn {n : Int} {d : Nat} (h : d ≠ 0) : sgn n = sgn (mkRat n d).num := by
  obtain ⟨_, a2, _⟩ := mkRat_abs (n := n) h
  have a0 : n = 0 ↔ (mkRat n d).num = 0 := by rw [← Rat.mkRat_eq_zero (n := n) h]; exact Rat.num_eq_zero.symm
  unfold sgn
  by_cases h1 : n < 0
  · rw [if_pos h1, if_pos (a2.2 h1)]
  · rw [if_neg h1, if_neg (fun h2 => h1 (a2.1 h2))]
    by_cases h3 : n = 0
    · rw [if_neg (by omega), if_neg (by have := a0.1 h3; omega)]
    · rw [if_pos (by omega), if_pos (by
        have h4 : (mkRat n d).num ≠ 0 := fun e => h3 (a0.2 e)
        have h5 : ¬ (mkRat n d).num < 0 := fun h2 => h1 (a2.1 h2)
        omega)]
set_option maxRecDepth 100000 in
set_option maxHeartbeats 1000000 in
theorem RSign_c (p : Bool) (A B : Option Addr) (xs ys : List Nat) (c d : Nat) (w : World) (r : Rat) (s : Int) (ha : Lim w A c xs) (hb : Lim w B d ys) (hr : rv p xs ys = r) (hs : sgn r.num = s) :
    Calls Try.prog 42 #[.agg #[.bool p, .slice A xs.length c, .slice B ys.length d]] w (RetI w s) := by
  obtain ⟨W, hW, hbW, hsz, i1⟩ := rbox1 w p (.slice A xs.length c) (.slice B ys.length d)
  have j1 := i1.lt
  obtain ⟨x0, x1, x2, _, _, _⟩ := id i1
  have HW := Lib.hid hW
  clear hW hsz
  replace ha := ha.below hbW
  replace hb := hb.below hbW
  go_enter Try.func42, Try.ntmps42
  go_wp2_with fail
  rw [HW.out]
  refine (parts_c p A B xs ys c d _ r (xs.length + ys.length + 1) ha hb (by omega) (by omega) (by omega) hr).mono ?_
  rintro e w1 ⟨q, A', xs', c', B', ys', d', rfl, la, lb, hs', ht', hne, hrv, b1⟩
  have es : sgn (iv q xs') = s := by
    rw [← hs, ← hrv]; exact mkRat_sgn hne
  have ES := Lib.hid es
  have hi := IntAt.new w1 q (.slice A' xs'.length c')
  have la2 := la.below (bel1 w1 (.cells #[.bool q, .slice A' xs'.length c'] 24))
  clear es
  go_wp2_with fail
  refine (Sign_c q A' xs' c' _ la2).mono ?_
  rintro e w2 ⟨rfl, b2⟩
  rw [ES.out]
  have b02 := (hbW.trans (b1.mono hbW.size))
  have b03 := (b02.alloc b02.size (.cells #[.bool q, .slice A' xs'.length c'] 24))
  go_wp2_with fail
  go_ret
  exact ⟨rfl, b03.trans (b2.mono b03.size)⟩

end Go.Proofs.Ytaeidephegnkdaa
