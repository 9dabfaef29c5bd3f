/- Variables of struct type in the loop of integer.Extended; what it returns. -/
import Derived.Test.YtkpchamgghhihaaPair
import Derived.Test.YtkpchamgghhihaaExt
namespace Go.Proofs.Ytkpchamgghhihaa
open Go.RowKit Gm

/-- the integer variable at block N holds n; its limbs lie in blocks from lo on -/
def IV (lo : Nat) (w : World) (N : Nat) (n : Int) : Prop := ∃ A c, IntAt w N (decide (n < 0)) (.slice A (limbs n.natAbs).length c) ∧ Own lo w A c (limbs n.natAbs)
theorem IV.below {lo N : Nat} {w w' : World} {n : Int} (h : IV lo w N n) (hb : Below w.heap.size w w') : IV lo w' N n := by
  obtain ⟨A, c, h1, h2⟩ := h
  exact ⟨A, c, h1.keep hb, h2.below hb⟩
theorem IV.far {lo N M : Nat} {w : World} {n : Int} {b : Bool} {B : Option Addr} {m k : Nat} (h : IV lo w N n) (hM : N ≠ M) (hv : IntAt w M b (.slice B m k)) (b' : Bool) (v : Value) : IV lo ((w.setCell ⟨M, 0, none⟩ (.bool b')).setCell ⟨M, 1, none⟩ v) N n := by
  obtain ⟨A, c, h1, h2⟩ := h
  exact ⟨A, c, h1.far hM _ _, h2.put hv _ _⟩
theorem IV.put {lo M : Nat} {w : World} {n : Int} {b : Bool} {B : Option Addr} {m k : Nat} {A : Option Addr} {c : Nat} (hM : IntAt w M b (.slice B m k)) (ho : Own lo w A c (limbs n.natAbs)) : IV lo ((w.setCell ⟨M, 0, none⟩ (.bool (decide (n < 0)))).setCell ⟨M, 1, none⟩ (.slice A (limbs n.natAbs).length c)) M n :=
  ⟨A, c, hM.put _ _, ho.put hM _ _⟩
theorem IV.put' {lo M : Nat} {w : World} (n : Int) {b b1 : Bool} {B : Option Addr} {m k l : Nat} {A : Option Addr} {c : Nat} (hM : IntAt w M b (.slice B m k)) (ho : Own lo w A c (limbs n.natAbs)) (e : decide (n < 0) = b1) (el : (limbs n.natAbs).length = l) : IV lo ((w.setCell ⟨M, 0, none⟩ (.bool b1)).setCell ⟨M, 1, none⟩ (.slice A l c)) M n := by
  subst e el; exact IV.put hM ho
theorem IV.new {lo : Nat} {w : World} (n : Int) {b1 : Bool} {l : Nat} {A : Option Addr} {c : Nat} (ho : Own lo w A c (limbs n.natAbs)) (e : decide (n < 0) = b1) (el : (limbs n.natAbs).length = l) : IV lo (w.alloc (.cells #[.bool b1, .slice A l c] 38)) w.heap.size n := by
  subst e el; exact ⟨A, c, IntAt.new w _ _, ho.below (bel1 _ _)⟩
theorem IV.zero {lo N : Nat} {w : World} (h : IntAt w N false (.slice none 0 0)) : IV lo w N 0 := by
  refine ⟨none, 0, ?_, ?_⟩
  · simpa [limbs_zero] using h
  · simpa [limbs_zero] using Own.nil lo w none
theorem boxes5 (w : World) (p q : Bool) (u v : Value) :
    ∃ W, ((((w.alloc (.cells #[.bool p, u] 38)).alloc (.cells #[.bool q, v] 38)).alloc (.cells #[.bool false, .slice none 0 0] 38)).alloc (.cells #[.bool false, .slice none 0 0] 38)).alloc (.cells #[.bool false, .slice none 0 0] 38) = W ∧ Below w.heap.size w W ∧ W.heap.size = w.heap.size + 5 ∧
      (W.cell? ⟨w.heap.size, 0, none⟩ = some (.bool p) ∧ W.cell? ⟨w.heap.size, 1, none⟩ = some u ∧ W.cell? ⟨w.heap.size + 1, 0, none⟩ = some (.bool q) ∧ W.cell? ⟨w.heap.size + 1, 1, none⟩ = some v) ∧
      IntAt W (w.heap.size + 1 + 1) false (.slice none 0 0) ∧ IntAt W (w.heap.size + 1 + 1 + 1) false (.slice none 0 0) ∧ IntAt W (w.heap.size + 1 + 1 + 1 + 1) false (.slice none 0 0) := by
  refine ⟨_, rfl, (((((Below.refl _ _).alloc (Nat.le_refl _) _).alloc (by simp) _).alloc (by simp; omega) _).alloc (by simp; omega) _).alloc (by simp; omega) _, by simp, ?_, ?_, ?_, ?_⟩
  · refine ⟨?_, ?_, ?_, ?_⟩ <;> go_simp
  · refine ⟨?_, ?_, ?_, ?_⟩ <;> go_simp
  · refine ⟨?_, ?_, ?_, ?_⟩ <;> go_simp
  · refine ⟨?_, ?_, ?_, ?_⟩ <;> go_simp

/-- the variables in the loop -/
structure SE (W : World) (s g7 g8 g9 : Nat) (m n x z y : Int) (wr : World) : Prop where
  v7 : IV s wr g7 m
  v8 : IV s wr g8 n
  v5 : IV s wr (s + 1 + 1 + 1) x
  v9 : IV s wr g9 z
  v4 : IV s wr (s + 1 + 1) 0
  v6 : IV s wr (s + 1 + 1 + 1 + 1) y
  bl : Below (s + 2) W wr
theorem SE.below {W : World} {s g7 g8 g9 : Nat} {m n x z y : Int} {wr w' : World} (h : SE W s g7 g8 g9 m n x z y wr) (hb : Below wr.heap.size wr w') (hs : s + 2 ≤ wr.heap.size) : SE W s g7 g8 g9 m n x z y w' :=
  ⟨h.v7.below hb, h.v8.below hb, h.v5.below hb, h.v9.below hb, h.v4.below hb, h.v6.below hb, h.bl.trans (hb.mono hs)⟩
theorem SE.m78 {W : World} {s g7 g8 g9 : Nat} {m n x z y R : Int} {w : World} {A8 A11 : Option Addr} {c8 c11 : Nat} (h : SE W s g7 g8 g9 m n x z y w) (h78 : g7 ≠ g8) (h7 : s + 5 ≤ g7) (h8 : s + 5 ≤ g8) (h79 : g9 ≠ g7) (h89 : g9 ≠ g8) (o8 : Own s w A8 c8 (limbs n.natAbs)) (o11 : Own s w A11 c11 (limbs R.natAbs)) :
    SE W s g7 g8 g9 n R x z y ((((w.setCell ⟨g7, 0, none⟩ (.bool (decide (n < 0)))).setCell ⟨g7, 1, none⟩ (.slice A8 (limbs n.natAbs).length c8)).setCell ⟨g8, 0, none⟩ (.bool (decide (R < 0)))).setCell ⟨g8, 1, none⟩ (.slice A11 (limbs R.natAbs).length c11)) := by
  obtain ⟨A7, c7, i7, _⟩ := h.v7
  obtain ⟨B8, d8, i8, _⟩ := h.v8
  have j8 := i8.far (M := g7) (Ne.symm h78) (.bool (decide (n < 0))) (.slice A8 (limbs n.natAbs).length c8)
  exact ⟨(IV.put i7 o8).far h78 j8 _ _, IV.put j8 (o11.put i7 _ _), (h.v5.far (by omega) i7 _ _).far (by omega) j8 _ _, (h.v9.far h79 i7 _ _).far h89 j8 _ _, (h.v4.far (by omega) i7 _ _).far (by omega) j8 _ _, (h.v6.far (by omega) i7 _ _).far (by omega) j8 _ _, below_put2 (below_put2 h.bl (by omega) _ _) (by omega) _ _⟩
theorem IV.m78 {s g7 g8 N : Nat} {n R Q : Int} {w : World} {A8 A11 : Option Addr} {c8 c11 : Nat} {b7 b8 : Bool} {B7 B8 : Option Addr} {k7 l7 k8 l8 : Nat} (h : IV s w N Q) (i7 : IntAt w g7 b7 (.slice B7 k7 l7)) (i8 : IntAt w g8 b8 (.slice B8 k8 l8)) (h78 : g7 ≠ g8) (n7 : N ≠ g7) (n8 : N ≠ g8) :
    IV s ((((w.setCell ⟨g7, 0, none⟩ (.bool (decide (n < 0)))).setCell ⟨g7, 1, none⟩ (.slice A8 (limbs n.natAbs).length c8)).setCell ⟨g8, 0, none⟩ (.bool (decide (R < 0)))).setCell ⟨g8, 1, none⟩ (.slice A11 (limbs R.natAbs).length c11)) N Q :=
  (h.far n7 i7 _ _).far n8 (i8.far (M := g7) (Ne.symm h78) (.bool (decide (n < 0))) (.slice A8 (limbs n.natAbs).length c8)) _ _
theorem SE.m59 {W : World} {s g7 g8 g9 : Nat} {m n x z y R : Int} {w : World} {A8 A11 : Option Addr} {c8 c11 : Nat} (h : SE W s g7 g8 g9 m n x z y w) (h7 : s + 5 ≤ g7) (h8 : s + 5 ≤ g8) (h9 : s + 5 ≤ g9) (h79 : g9 ≠ g7) (h89 : g9 ≠ g8) (o8 : Own s w A8 c8 (limbs z.natAbs)) (o11 : Own s w A11 c11 (limbs R.natAbs)) :
    SE W s g7 g8 g9 m n z R y ((((w.setCell ⟨s + 1 + 1 + 1, 0, none⟩ (.bool (decide (z < 0)))).setCell ⟨s + 1 + 1 + 1, 1, none⟩ (.slice A8 (limbs z.natAbs).length c8)).setCell ⟨g9, 0, none⟩ (.bool (decide (R < 0)))).setCell ⟨g9, 1, none⟩ (.slice A11 (limbs R.natAbs).length c11)) := by
  obtain ⟨A7, c7, i5, _⟩ := h.v5
  obtain ⟨B8, d8, i9, _⟩ := h.v9
  have n59 : s + 1 + 1 + 1 ≠ g9 := by omega
  have j9 := i9.far (M := s + 1 + 1 + 1) (Ne.symm n59) (.bool (decide (z < 0))) (.slice A8 (limbs z.natAbs).length c8)
  exact ⟨(h.v7.far (by omega) i5 _ _).far (Ne.symm h79) j9 _ _, (h.v8.far (by omega) i5 _ _).far (Ne.symm h89) j9 _ _, (IV.put i5 o8).far n59 j9 _ _, IV.put j9 (o11.put i5 _ _), (h.v4.far (by omega) i5 _ _).far (by omega) j9 _ _, (h.v6.far (by omega) i5 _ _).far (by omega) j9 _ _, below_put2 (below_put2 h.bl (by omega) _ _) (by omega) _ _⟩
theorem SE.m6 {W : World} {s g7 g8 g9 : Nat} {m n x z y : Int} {w : World} {A : Option Addr} {c l : Nat} {b1 : Bool} (h : SE W s g7 g8 g9 m n x z y w) (h7 : s + 5 ≤ g7) (h8 : s + 5 ≤ g8) (h9 : s + 5 ≤ g9) (v : Int) (o : Own s w A c (limbs v.natAbs)) (e : decide (v < 0) = b1) (el : (limbs v.natAbs).length = l) :
    SE W s g7 g8 g9 m n x z v ((w.setCell ⟨s + 1 + 1 + 1 + 1, 0, none⟩ (.bool b1)).setCell ⟨s + 1 + 1 + 1 + 1, 1, none⟩ (.slice A l c)) := by
  obtain ⟨A6, c6, i6, _⟩ := h.v6
  exact ⟨h.v7.far (by omega) i6 _ _, h.v8.far (by omega) i6 _ _, h.v5.far (by omega) i6 _ _, h.v9.far (by omega) i6 _ _, h.v4.far (by omega) i6 _ _, IV.put' v i6 o e el, below_put2 h.bl (by omega) _ _⟩
theorem SE.m5 {W : World} {s g7 g8 g9 : Nat} {m n x z y : Int} {w : World} {A : Option Addr} {c l : Nat} {b1 : Bool} (h : SE W s g7 g8 g9 m n x z y w) (h7 : s + 5 ≤ g7) (h8 : s + 5 ≤ g8) (h9 : s + 5 ≤ g9) (v : Int) (o : Own s w A c (limbs v.natAbs)) (e : decide (v < 0) = b1) (el : (limbs v.natAbs).length = l) :
    SE W s g7 g8 g9 m n v z y ((w.setCell ⟨s + 1 + 1 + 1, 0, none⟩ (.bool b1)).setCell ⟨s + 1 + 1 + 1, 1, none⟩ (.slice A l c)) := by
  obtain ⟨A6, c6, i5, _⟩ := h.v5
  exact ⟨h.v7.far (by omega) i5 _ _, h.v8.far (by omega) i5 _ _, IV.put' v i5 o e el, h.v9.far (by omega) i5 _ _, h.v4.far (by omega) i5 _ _, h.v6.far (by omega) i5 _ _, below_put2 h.bl (by omega) _ _⟩
/-- what Extended returns -/
def RetExt (w : World) (a b : Int) (e : Ending) (w' : World) : Prop :=
  ∃ g x y A c B d D f, e = .returned (.tuple #[.agg #[.bool (decide (g < 0)), .slice A (limbs g.natAbs).length c], .agg #[.bool (decide (x < 0)), .slice B (limbs x.natAbs).length d], .agg #[.bool (decide (y < 0)), .slice D (limbs y.natAbs).length f]]) ∧
    Own w.heap.size w' A c (limbs g.natAbs) ∧ Own w.heap.size w' B d (limbs x.natAbs) ∧ Own w.heap.size w' D f (limbs y.natAbs) ∧ Bz a b g x y ∧ Below w.heap.size w w'

theorem ext_ret {w0 w : World} {a b m X v : Int} {A7 A5 A6 : Option Addr} {c7 c5 c6 : Nat} {b4 b5 b6 : Bool} {B4 B5 B6 : Option Addr} {k4 l4 k5 l5 k6 l6 : Nat} (i4 : IntAt w (w0.heap.size + 1 + 1) b4 (.slice B4 k4 l4)) (i5 : IntAt w (w0.heap.size + 1 + 1 + 1) b5 (.slice B5 k5 l5)) (i6 : IntAt w (w0.heap.size + 1 + 1 + 1 + 1) b6 (.slice B6 k6 l6)) (o7 : Own w0.heap.size w A7 c7 (limbs m.natAbs)) (o5 : Own w0.heap.size w A5 c5 (limbs X.natAbs)) (o6 : Own w0.heap.size w A6 c6 (limbs v.natAbs)) (hb : Below w0.heap.size w0 w) (hz : Bz a b m X v) :
    RetExt w0 a b (.returned (.tuple #[.agg #[.bool (decide (m < 0)), .slice A7 (limbs m.natAbs).length c7], .agg #[.bool (decide (X < 0)), .slice A5 (limbs X.natAbs).length c5], .agg #[.bool (decide (v < 0)), .slice A6 (limbs v.natAbs).length c6]]))
      ((((((w.setCell ⟨w0.heap.size + 1 + 1, 0, none⟩ (.bool (decide (m < 0)))).setCell ⟨w0.heap.size + 1 + 1, 1, none⟩ (.slice A7 (limbs m.natAbs).length c7)).setCell ⟨w0.heap.size + 1 + 1 + 1, 0, none⟩ (.bool (decide (X < 0)))).setCell ⟨w0.heap.size + 1 + 1 + 1, 1, none⟩ (.slice A5 (limbs X.natAbs).length c5)).setCell ⟨w0.heap.size + 1 + 1 + 1 + 1, 0, none⟩ (.bool (decide (v < 0)))).setCell ⟨w0.heap.size + 1 + 1 + 1 + 1, 1, none⟩ (.slice A6 (limbs v.natAbs).length c6)).drew := by
  have j5 := i5.far (M := w0.heap.size + 1 + 1) (by omega) (.bool (decide (m < 0))) (.slice A7 (limbs m.natAbs).length c7)
  have j6 := (i6.far (M := w0.heap.size + 1 + 1) (by omega) (.bool (decide (m < 0))) (.slice A7 (limbs m.natAbs).length c7)).far (M := w0.heap.size + 1 + 1 + 1) (by omega) (.bool (decide (X < 0))) (.slice A5 (limbs X.natAbs).length c5)
  exact ⟨m, X, v, A7, c7, A5, c5, A6, c6, rfl, (((o7.put i4 _ _).put j5 _ _).put j6 _ _).drewN 1, (((o5.put i4 _ _).put j5 _ _).put j6 _ _).drewN 1, (((o6.put i4 _ _).put j5 _ _).put j6 _ _).drewN 1, hz, (below_put2 (below_put2 (below_put2 hb (by omega) _ _) (by omega) _ _) (by omega) _ _).drew⟩

end Go.Proofs.Ytkpchamgghhihaa
