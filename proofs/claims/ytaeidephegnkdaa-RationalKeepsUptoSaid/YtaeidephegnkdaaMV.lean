/- Rv Rw Rx Inv in one text. -/
import Derived.Test.YtaeidephegnkdaaRatM4
namespace Go.Proofs.Ytaeidephegnkdaa
open Go.RowKit Gm
/- Integers and rational numbers as opaque values: what they mean, and what worlds leave of them. -/

/-- numerator and denominator have at most K limbs -/
def Sz (r : Rat) (K : Nat) : Prop := (limbs r.num.natAbs).length ≤ K ∧ (limbs r.den).length ≤ K
def SzI (n : Int) (K : Nat) : Prop := (limbs n.natAbs).length ≤ K
/-- the cells b, s, t are a Rat with the value r -/
def IsRat (w : World) (b s t : Value) (r : Rat) (K : Nat) : Prop :=
  ∃ p A xs c B ys d, b = .bool p ∧ s = .slice A xs.length c ∧ t = .slice B ys.length d ∧ Lim w A c xs ∧ Lim w B d ys ∧ xs.length ≤ K ∧ ys.length ≤ K ∧ 1 ≤ K ∧ rv p xs ys = r
def IsInt (w : World) (b s : Value) (n : Int) (K : Nat) : Prop :=
  ∃ p A xs c, b = .bool p ∧ s = .slice A xs.length c ∧ Lim w A c xs ∧ xs.length ≤ K ∧ iv p xs = n
/-- they are the canonical Rat r, in memory from lo on -/
def OwRat (lo : Nat) (w : World) (b s t : Value) (r : Rat) : Prop :=
  ∃ A c B d, b = .bool (decide (r.num < 0)) ∧ s = .slice A (limbs r.num.natAbs).length c ∧ t = .slice B (limbs r.den).length d ∧ Own lo w A c (limbs r.num.natAbs) ∧ Own lo w B d (limbs r.den)
def OwInt (lo : Nat) (w : World) (b s : Value) (n : Int) : Prop :=
  ∃ A c, b = .bool (decide (n < 0)) ∧ s = .slice A (limbs n.natAbs).length c ∧ Own lo w A c (limbs n.natAbs)
/-- no limb -/
def NoL (v : Value) : Prop := ∀ z, v ≠ .int .u32 z
theorem NoL.b (p : Bool) : NoL (.bool p) := by intro z e; cases e
theorem NoL.s (A : Option Addr) (n c : Nat) : NoL (.slice A n c) := by intro z e; cases e

section
variable {w w' : World} {lo lo' : Nat} {b s t : Value} {r : Rat} {n : Int} {K L : Nat}
theorem Sz.mono (h : Sz r K) (hk : K ≤ L) : Sz r L := ⟨Nat.le_trans h.1 hk, Nat.le_trans h.2 hk⟩
theorem SzI.mono (h : SzI n K) (hk : K ≤ L) : SzI n L := Nat.le_trans h hk
theorem Sz.one (h : Sz r K) : 1 ≤ K := Nat.le_trans (by
  have h1 : limbs r.den ≠ [] := fun e => r.den_nz (limbs_eq_nil.1 e)
  cases hl : limbs r.den with
  | nil => exact absurd hl h1
  | cons x l => simp) h.2
theorem Sz.num (h : Sz r K) : SzI r.num K := h.1
theorem Sz.den (h : Sz r K) : SzI (r.den : Int) K := by unfold SzI; rw [Int.natAbs_natCast]; exact h.2
theorem IsRat.one (h : IsRat w b s t r K) : 1 ≤ K := by obtain ⟨p, A, xs, c, B, ys, d, rfl, rfl, rfl, ha, hb, hs, ht, h1, hr⟩ := h; exact h1
theorem IsRat.sz (h : IsRat w b s t r K) : Sz r K := by
  obtain ⟨p, A, xs, c, B, ys, d, rfl, rfl, rfl, ha, hb, hs, ht, h1, hr⟩ := h
  rw [← hr]; exact ⟨rv_num_sz ha.lb hs, rv_den_sz hb.lb ht h1⟩
theorem IsInt.sz (h : IsInt w b s n K) : SzI n K := by
  obtain ⟨p, A, xs, c, rfl, rfl, ha, hs, hn⟩ := h
  rw [← hn]; exact iv_len ha.lb hs
theorem IsRat.keep (h : IsRat w b s t r K) (hb : Below w.heap.size w w') : IsRat w' b s t r K := by
  obtain ⟨p, A, xs, c, B, ys, d, rfl, rfl, rfl, ha, hd, hs, ht, h1, hr⟩ := h
  exact ⟨p, A, xs, c, B, ys, d, rfl, rfl, rfl, ha.below hb, hd.below hb, hs, ht, h1, hr⟩
theorem IsInt.keep (h : IsInt w b s n K) (hb : Below w.heap.size w w') : IsInt w' b s n K := by
  obtain ⟨p, A, xs, c, rfl, rfl, ha, hs, hn⟩ := h
  exact ⟨p, A, xs, c, rfl, rfl, ha.below hb, hs, hn⟩
theorem OwRat.keep (h : OwRat lo w b s t r) (hb : Below w.heap.size w w') : OwRat lo w' b s t r := by
  obtain ⟨A, c, B, d, rfl, rfl, rfl, ha, hd⟩ := h
  exact ⟨A, c, B, d, rfl, rfl, rfl, ha.below hb, hd.below hb⟩
theorem OwInt.keep (h : OwInt lo w b s n) (hb : Below w.heap.size w w') : OwInt lo w' b s n := by
  obtain ⟨A, c, rfl, rfl, ha⟩ := h
  exact ⟨A, c, rfl, rfl, ha.below hb⟩
theorem IsRat.mono (h : IsRat w b s t r K) (hk : K ≤ L) : IsRat w b s t r L := by
  obtain ⟨p, A, xs, c, B, ys, d, rfl, rfl, rfl, ha, hd, hs, ht, h1, hr⟩ := h
  exact ⟨p, A, xs, c, B, ys, d, rfl, rfl, rfl, ha, hd, Nat.le_trans hs hk, Nat.le_trans ht hk, Nat.le_trans h1 hk, hr⟩
theorem IsInt.mono (h : IsInt w b s n K) (hk : K ≤ L) : IsInt w b s n L := by
  obtain ⟨p, A, xs, c, rfl, rfl, ha, hs, hn⟩ := h
  exact ⟨p, A, xs, c, rfl, rfl, ha, Nat.le_trans hs hk, hn⟩
theorem OwRat.mono (h : OwRat lo w b s t r) (hl : lo' ≤ lo) : OwRat lo' w b s t r := by
  obtain ⟨A, c, B, d, rfl, rfl, rfl, ha, hd⟩ := h
  exact ⟨A, c, B, d, rfl, rfl, rfl, ha.mono hl, hd.mono hl⟩
theorem OwInt.mono (h : OwInt lo w b s n) (hl : lo' ≤ lo) : OwInt lo' w b s n := by
  obtain ⟨A, c, rfl, rfl, ha⟩ := h
  exact ⟨A, c, rfl, rfl, ha.mono hl⟩
theorem OwRat.is (h : OwRat lo w b s t r) (hz : Sz r K) : IsRat w b s t r K := by
  have h1 := hz.one
  obtain ⟨A, c, B, d, rfl, rfl, rfl, ha, hd⟩ := h
  exact ⟨_, A, _, c, B, _, d, rfl, rfl, rfl, ha.lim, hd.lim, hz.1, hz.2, h1, rv_canon r⟩
theorem OwInt.is (h : OwInt lo w b s n) (hz : SzI n K) : IsInt w b s n K := by
  obtain ⟨A, c, rfl, rfl, ha⟩ := h
  exact ⟨_, A, _, c, rfl, rfl, ha.lim, hz, iv_canon n⟩
theorem OwRat.num (h : OwRat lo w b s t r) : OwInt lo w b s r.num := by
  obtain ⟨A, c, B, d, rfl, rfl, rfl, ha, hd⟩ := h
  exact ⟨A, c, rfl, rfl, ha⟩
theorem OwRat.den (h : OwRat lo w b s t r) : OwInt lo w (.bool false) t (r.den : Int) := by
  obtain ⟨A, c, B, d, rfl, rfl, rfl, ha, hd⟩ := h
  exact ⟨B, d, by rw [decide_eq_false (by omega)], rfl, hd⟩
theorem OwRat.of (h : OwInt lo w b s r.num) (h2 : OwInt lo w (.bool false) t (r.den : Int)) : OwRat lo w b s t r := by
  obtain ⟨A, c, rfl, rfl, ha⟩ := h
  obtain ⟨B, d, _, rfl, hd⟩ := h2
  exact ⟨A, c, B, d, rfl, rfl, rfl, ha, hd⟩
theorem OwRat.store {p : Addr} {u v : Value} (h : OwRat lo w b s t r) (hp : w.cell? p = some v) (hv : NoL v) : OwRat lo (w.setCell p u) b s t r := by
  obtain ⟨A, c, B, d, rfl, rfl, rfl, ha, hd⟩ := h
  exact ⟨A, c, B, d, rfl, rfl, rfl, ha.store hp hv, hd.store hp hv⟩
theorem OwInt.store {p : Addr} {u v : Value} (h : OwInt lo w b s n) (hp : w.cell? p = some v) (hv : NoL v) : OwInt lo (w.setCell p u) b s n := by
  obtain ⟨A, c, rfl, rfl, ha⟩ := h
  exact ⟨A, c, rfl, rfl, ha.store hp hv⟩
theorem IsRat.store {p : Addr} {u v : Value} (h : IsRat w b s t r K) (hp : w.cell? p = some v) (hv : NoL v) : IsRat (w.setCell p u) b s t r K := by
  obtain ⟨p, A, xs, c, B, ys, d, rfl, rfl, rfl, ha, hd, hs, ht, h1, hr⟩ := h
  exact ⟨p, A, xs, c, B, ys, d, rfl, rfl, rfl, ha.store hp hv, hd.store hp hv, hs, ht, h1, hr⟩
theorem IsInt.store {p : Addr} {u v : Value} (h : IsInt w b s n K) (hp : w.cell? p = some v) (hv : NoL v) : IsInt (w.setCell p u) b s n K := by
  obtain ⟨p, A, xs, c, rfl, rfl, ha, hs, hn⟩ := h
  exact ⟨p, A, xs, c, rfl, rfl, ha.store hp hv, hs, hn⟩
theorem IsRat.nol (h : IsRat w b s t r K) : NoL b ∧ NoL s ∧ NoL t := by
  obtain ⟨p, A, xs, c, B, ys, d, rfl, rfl, rfl, ha, hd, hs, ht, h1, hr⟩ := h
  exact ⟨NoL.b _, NoL.s _ _ _, NoL.s _ _ _⟩
theorem OwRat.nol (h : OwRat lo w b s t r) : NoL b ∧ NoL s ∧ NoL t := by
  obtain ⟨A, c, B, d, rfl, rfl, rfl, ha, hd⟩ := h
  exact ⟨NoL.b _, NoL.s _ _ _, NoL.s _ _ _⟩
theorem IsInt.nol (h : IsInt w b s n K) : NoL b ∧ NoL s := by
  obtain ⟨p, A, xs, c, rfl, rfl, ha, hs, hn⟩ := h
  exact ⟨NoL.b _, NoL.s _ _ _⟩
theorem OwInt.nol (h : OwInt lo w b s n) : NoL b ∧ NoL s := by
  obtain ⟨A, c, rfl, rfl, ha⟩ := h
  exact ⟨NoL.b _, NoL.s _ _ _⟩
/-- the zero value -/
theorem IsRat.zero (w : World) (h : 1 ≤ K) : IsRat w (.bool false) (.slice none 0 0) (.slice none 0 0) 0 K :=
  ⟨false, none, [], 0, none, [], 0, rfl, rfl, rfl, Lim.nil _ _, Lim.nil _ _, Nat.zero_le _, Nat.zero_le _, h, rv_den0 rfl⟩
theorem IsInt.zero (w : World) : IsInt w (.bool false) (.slice none 0 0) 0 K := ⟨false, none, [], 0, rfl, rfl, Lim.nil _ _, Nat.zero_le _, rfl⟩
end

/-- a variable of three cells -/
structure Bx3 (w : World) (N : Nat) (b s t : Value) : Prop where
  c0 : w.cell? ⟨N, 0, none⟩ = some b
  c1 : w.cell? ⟨N, 1, none⟩ = some s
  c2 : w.cell? ⟨N, 2, none⟩ = some t
  f0 : w.frozen? ⟨N, 0, none⟩ = false
  f1 : w.frozen? ⟨N, 1, none⟩ = false
  f2 : w.frozen? ⟨N, 2, none⟩ = false
structure Bx2 (w : World) (N : Nat) (b s : Value) : Prop where
  c0 : w.cell? ⟨N, 0, none⟩ = some b
  c1 : w.cell? ⟨N, 1, none⟩ = some s
  f0 : w.frozen? ⟨N, 0, none⟩ = false
  f1 : w.frozen? ⟨N, 1, none⟩ = false
section
variable {w w' : World} {N M : Nat} {b s t b' s' t' : Value} {r : Rat} {n : Int} {K : Nat}
theorem Bx3.lt (h : Bx3 w N b s t) : N < w.heap.size := World.block_lt_of_cell? w _ h.c0
theorem Bx2.lt (h : Bx2 w N b s) : N < w.heap.size := World.block_lt_of_cell? w _ h.c0
theorem Bx3.keep (h : Bx3 w N b s t) (hb : Below w.heap.size w w') : Bx3 w' N b s t :=
  have hN := h.lt
  ⟨(hb.cell (p := ⟨N, 0, none⟩) hN).trans h.c0, (hb.cell (p := ⟨N, 1, none⟩) hN).trans h.c1, (hb.cell (p := ⟨N, 2, none⟩) hN).trans h.c2, (hb.frozen (p := ⟨N, 0, none⟩) hN).trans h.f0, (hb.frozen (p := ⟨N, 1, none⟩) hN).trans h.f1, (hb.frozen (p := ⟨N, 2, none⟩) hN).trans h.f2⟩
theorem Bx2.keep (h : Bx2 w N b s) (hb : Below w.heap.size w w') : Bx2 w' N b s :=
  have hN := h.lt
  ⟨(hb.cell (p := ⟨N, 0, none⟩) hN).trans h.c0, (hb.cell (p := ⟨N, 1, none⟩) hN).trans h.c1, (hb.frozen (p := ⟨N, 0, none⟩) hN).trans h.f0, (hb.frozen (p := ⟨N, 1, none⟩) hN).trans h.f1⟩
theorem Bx3.new (w : World) (b s t : Value) : Bx3 (w.alloc (.cells #[b, s, t] 26)) w.heap.size b s t := by
  refine ⟨?_, ?_, ?_, ?_, ?_, ?_⟩ <;> go_simp
theorem Bx2.new (w : World) (b s : Value) : Bx2 (w.alloc (.cells #[b, s] 24)) w.heap.size b s := by
  refine ⟨?_, ?_, ?_, ?_⟩ <;> go_simp
theorem Bx3.put (h : Bx3 w N b s t) (b' s' t' : Value) : Bx3 (((w.setCell ⟨N, 0, none⟩ b').setCell ⟨N, 1, none⟩ s').setCell ⟨N, 2, none⟩ t') N b' s' t' := by
  obtain ⟨h0, h1, h2, h3, h4, h5⟩ := h
  refine ⟨?_, ?_, ?_, ?_, ?_, ?_⟩ <;> go_simp
theorem Bx2.put (h : Bx2 w N b s) (b' s' : Value) : Bx2 ((w.setCell ⟨N, 0, none⟩ b').setCell ⟨N, 1, none⟩ s') N b' s' := by
  obtain ⟨h0, h1, h2, h3⟩ := h
  refine ⟨?_, ?_, ?_, ?_⟩ <;> go_simp
theorem Bx3.far {i : Nat} (h : Bx3 w N b s t) (hM : N ≠ M) (u : Value) : Bx3 (w.setCell ⟨M, i, none⟩ u) N b s t := by
  have h1 := Below.heap_setCell w ⟨M, i, none⟩ u N hM
  exact ⟨by rw [← h.c0]; simp only [World.cell?, h1], by rw [← h.c1]; simp only [World.cell?, h1], by rw [← h.c2]; simp only [World.cell?, h1], by rw [← h.f0]; simp only [World.frozen?, h1], by rw [← h.f1]; simp only [World.frozen?, h1], by rw [← h.f2]; simp only [World.frozen?, h1]⟩
theorem Bx2.far {i : Nat} (h : Bx2 w N b s) (hM : N ≠ M) (u : Value) : Bx2 (w.setCell ⟨M, i, none⟩ u) N b s := by
  have h1 := Below.heap_setCell w ⟨M, i, none⟩ u N hM
  exact ⟨by rw [← h.c0]; simp only [World.cell?, h1], by rw [← h.c1]; simp only [World.cell?, h1], by rw [← h.f0]; simp only [World.frozen?, h1], by rw [← h.f1]; simp only [World.frozen?, h1]⟩
theorem Bx3.far3 (h : Bx3 w N b s t) (hM : N ≠ M) (u v x : Value) : Bx3 (((w.setCell ⟨M, 0, none⟩ u).setCell ⟨M, 1, none⟩ v).setCell ⟨M, 2, none⟩ x) N b s t := ((h.far hM u).far hM v).far hM x
theorem Bx3.far2 (h : Bx3 w N b s t) (hM : N ≠ M) (u v : Value) : Bx3 ((w.setCell ⟨M, 0, none⟩ u).setCell ⟨M, 1, none⟩ v) N b s t := (h.far hM u).far hM v
theorem Bx2.far3 (h : Bx2 w N b s) (hM : N ≠ M) (u v x : Value) : Bx2 (((w.setCell ⟨M, 0, none⟩ u).setCell ⟨M, 1, none⟩ v).setCell ⟨M, 2, none⟩ x) N b s := ((h.far hM u).far hM v).far hM x
theorem Bx2.far2 (h : Bx2 w N b s) (hM : N ≠ M) (u v : Value) : Bx2 ((w.setCell ⟨M, 0, none⟩ u).setCell ⟨M, 1, none⟩ v) N b s := (h.far hM u).far hM v
/-- what a store into a variable leaves of a number -/
theorem OwRat.put3 {lo : Nat} {x y z : Value} (h : OwRat lo w x y z r) (hN : Bx3 w N b s t) (k : NoL b ∧ NoL s ∧ NoL t) (b' s' t' : Value) : OwRat lo (((w.setCell ⟨N, 0, none⟩ b').setCell ⟨N, 1, none⟩ s').setCell ⟨N, 2, none⟩ t') x y z r := by
  have h1 : OwRat lo (w.setCell ⟨N, 0, none⟩ b') x y z r := h.store hN.c0 k.1
  have h2 : OwRat lo ((w.setCell ⟨N, 0, none⟩ b').setCell ⟨N, 1, none⟩ s') x y z r := h1.store (v := s) (by rw [World.cell?_setCell_other (b := (⟨N, 1, none⟩ : Addr)) (h := by simp)]; exact hN.c1) k.2.1
  exact h2.store (v := t) (by rw [World.cell?_setCell_other (b := (⟨N, 2, none⟩ : Addr)) (h := by simp), World.cell?_setCell_other (b := (⟨N, 2, none⟩ : Addr)) (h := by simp)]; exact hN.c2) k.2.2
theorem OwInt.put3 {lo : Nat} {x y : Value} (h : OwInt lo w x y n) (hN : Bx3 w N b s t) (k : NoL b ∧ NoL s ∧ NoL t) (b' s' t' : Value) : OwInt lo (((w.setCell ⟨N, 0, none⟩ b').setCell ⟨N, 1, none⟩ s').setCell ⟨N, 2, none⟩ t') x y n := by
  have h1 : OwInt lo (w.setCell ⟨N, 0, none⟩ b') x y n := h.store hN.c0 k.1
  have h2 : OwInt lo ((w.setCell ⟨N, 0, none⟩ b').setCell ⟨N, 1, none⟩ s') x y n := h1.store (v := s) (by rw [World.cell?_setCell_other (b := (⟨N, 1, none⟩ : Addr)) (h := by simp)]; exact hN.c1) k.2.1
  exact h2.store (v := t) (by rw [World.cell?_setCell_other (b := (⟨N, 2, none⟩ : Addr)) (h := by simp), World.cell?_setCell_other (b := (⟨N, 2, none⟩ : Addr)) (h := by simp)]; exact hN.c2) k.2.2
theorem IsRat.put3 {x y z : Value} (h : IsRat w x y z r K) (hN : Bx3 w N b s t) (k : NoL b ∧ NoL s ∧ NoL t) (b' s' t' : Value) : IsRat (((w.setCell ⟨N, 0, none⟩ b').setCell ⟨N, 1, none⟩ s').setCell ⟨N, 2, none⟩ t') x y z r K := by
  have h1 : IsRat (w.setCell ⟨N, 0, none⟩ b') x y z r K := h.store hN.c0 k.1
  have h2 : IsRat ((w.setCell ⟨N, 0, none⟩ b').setCell ⟨N, 1, none⟩ s') x y z r K := h1.store (v := s) (by rw [World.cell?_setCell_other (b := (⟨N, 1, none⟩ : Addr)) (h := by simp)]; exact hN.c1) k.2.1
  exact h2.store (v := t) (by rw [World.cell?_setCell_other (b := (⟨N, 2, none⟩ : Addr)) (h := by simp), World.cell?_setCell_other (b := (⟨N, 2, none⟩ : Addr)) (h := by simp)]; exact hN.c2) k.2.2
theorem IsInt.put3 {x y : Value} (h : IsInt w x y n K) (hN : Bx3 w N b s t) (k : NoL b ∧ NoL s ∧ NoL t) (b' s' t' : Value) : IsInt (((w.setCell ⟨N, 0, none⟩ b').setCell ⟨N, 1, none⟩ s').setCell ⟨N, 2, none⟩ t') x y n K := by
  have h1 : IsInt (w.setCell ⟨N, 0, none⟩ b') x y n K := h.store hN.c0 k.1
  have h2 : IsInt ((w.setCell ⟨N, 0, none⟩ b').setCell ⟨N, 1, none⟩ s') x y n K := h1.store (v := s) (by rw [World.cell?_setCell_other (b := (⟨N, 1, none⟩ : Addr)) (h := by simp)]; exact hN.c1) k.2.1
  exact h2.store (v := t) (by rw [World.cell?_setCell_other (b := (⟨N, 2, none⟩ : Addr)) (h := by simp), World.cell?_setCell_other (b := (⟨N, 2, none⟩ : Addr)) (h := by simp)]; exact hN.c2) k.2.2
theorem OwInt.put2 {lo : Nat} {x y : Value} (h : OwInt lo w x y n) (hN : Bx2 w N b s) (k : NoL b ∧ NoL s) (b' s' : Value) : OwInt lo ((w.setCell ⟨N, 0, none⟩ b').setCell ⟨N, 1, none⟩ s') x y n := by
  have h1 : OwInt lo (w.setCell ⟨N, 0, none⟩ b') x y n := h.store hN.c0 k.1
  exact h1.store (v := s) (by rw [World.cell?_setCell_other (b := (⟨N, 1, none⟩ : Addr)) (h := by simp)]; exact hN.c1) k.2
theorem OwRat.put2 {lo : Nat} {x y z : Value} (h : OwRat lo w x y z r) (hN : Bx2 w N b s) (k : NoL b ∧ NoL s) (b' s' : Value) : OwRat lo ((w.setCell ⟨N, 0, none⟩ b').setCell ⟨N, 1, none⟩ s') x y z r := by
  have h1 : OwRat lo (w.setCell ⟨N, 0, none⟩ b') x y z r := h.store hN.c0 k.1
  exact h1.store (v := s) (by rw [World.cell?_setCell_other (b := (⟨N, 1, none⟩ : Addr)) (h := by simp)]; exact hN.c1) k.2
theorem IsInt.put2 {x y : Value} (h : IsInt w x y n K) (hN : Bx2 w N b s) (k : NoL b ∧ NoL s) (b' s' : Value) : IsInt ((w.setCell ⟨N, 0, none⟩ b').setCell ⟨N, 1, none⟩ s') x y n K := by
  have h1 : IsInt (w.setCell ⟨N, 0, none⟩ b') x y n K := h.store hN.c0 k.1
  exact h1.store (v := s) (by rw [World.cell?_setCell_other (b := (⟨N, 1, none⟩ : Addr)) (h := by simp)]; exact hN.c1) k.2
theorem IsRat.put2 {x y z : Value} (h : IsRat w x y z r K) (hN : Bx2 w N b s) (k : NoL b ∧ NoL s) (b' s' : Value) : IsRat ((w.setCell ⟨N, 0, none⟩ b').setCell ⟨N, 1, none⟩ s') x y z r K := by
  have h1 : IsRat (w.setCell ⟨N, 0, none⟩ b') x y z r K := h.store hN.c0 k.1
  exact h1.store (v := s) (by rw [World.cell?_setCell_other (b := (⟨N, 1, none⟩ : Addr)) (h := by simp)]; exact hN.c1) k.2
end
theorem nol0 : NoL (.bool false) ∧ NoL (.slice none 0 0) ∧ NoL (.slice none 0 0) := ⟨NoL.b _, NoL.s _ _ _, NoL.s _ _ _⟩
theorem nol02 : NoL (.bool false) ∧ NoL (.slice none 0 0) := ⟨NoL.b _, NoL.s _ _ _⟩

/-- what functions return -/
def RetR (w : World) (r : Rat) (e : Ending) (w' : World) : Prop := ∃ b s t, e = .returned (.agg #[b, s, t]) ∧ OwRat w.heap.size w' b s t r ∧ Below w.heap.size w w'
def RetZ (w : World) (n : Int) (e : Ending) (w' : World) : Prop := ∃ b s, e = .returned (.agg #[b, s]) ∧ OwInt w.heap.size w' b s n ∧ Below w.heap.size w w'
/-- a rational number and true, or the zero value and false -/
def RetRY (w : World) (r : Rat) (e : Ending) (w' : World) : Prop := ∃ b s t, e = .returned (.tuple #[.agg #[b, s, t], .bool true]) ∧ OwRat w.heap.size w' b s t r ∧ Below w.heap.size w w'
theorem RetRat.r {w w' : World} {r : Rat} {e : Ending} (h : RetRat w r e w') : RetR w r e w' := by
  obtain ⟨A, c, B, d, rfl, h1, h2, h3⟩ := h
  exact ⟨_, _, _, rfl, ⟨A, c, B, d, rfl, rfl, rfl, h1, h2⟩, h3⟩
theorem RetInt.z {w w' : World} {n : Int} {e : Ending} (h : RetInt w n e w') : RetZ w n e w' := by
  obtain ⟨A, c, rfl, h1, h2⟩ := h
  exact ⟨_, _, rfl, ⟨A, c, rfl, rfl, h1⟩, h2⟩
theorem RetRatY.r {w w' : World} {r : Rat} {e : Ending} (h : RetRatY w r e w') : RetRY w r e w' := by
  obtain ⟨A, c, B, d, rfl, h1, h2, h3⟩ := h
  exact ⟨_, _, _, rfl, ⟨A, c, B, d, rfl, rfl, rfl, h1, h2⟩, h3⟩
/-- a result that lies in the variable of the result -/
theorem ret_r {w w1 : World} {lo : Nat} {r : Rat} {N : Nat} {b s t : Value} (hN : Bx3 w1 N (.bool false) (.slice none 0 0) (.slice none 0 0)) (hl : w.heap.size ≤ N) (o : OwRat lo w1 b s t r) (hlo : w.heap.size ≤ lo) (hb : Below w.heap.size w w1) :
    RetR w r (.returned (.agg #[b, s, t])) (((w1.setCell ⟨N, 0, none⟩ b).setCell ⟨N, 1, none⟩ s).setCell ⟨N, 2, none⟩ t) :=
  ⟨b, s, t, rfl, (o.mono hlo).put3 hN nol0 _ _ _, below_put3 hb hl _ _ _⟩
theorem ret_ry {w w1 : World} {lo : Nat} {r : Rat} {N : Nat} {b s t : Value} (hN : Bx3 w1 N (.bool false) (.slice none 0 0) (.slice none 0 0)) (hl : w.heap.size ≤ N) (o : OwRat lo w1 b s t r) (hlo : w.heap.size ≤ lo) (hb : Below w.heap.size w w1) :
    RetRY w r (.returned (.tuple #[.agg #[b, s, t], .bool true])) (((w1.setCell ⟨N, 0, none⟩ b).setCell ⟨N, 1, none⟩ s).setCell ⟨N, 2, none⟩ t) :=
  ⟨b, s, t, rfl, (o.mono hlo).put3 hN nol0 _ _ _, below_put3 hb hl _ _ _⟩
theorem ret_z {w w1 : World} {lo : Nat} {n : Int} {N : Nat} {b s : Value} (hN : Bx2 w1 N (.bool false) (.slice none 0 0)) (hl : w.heap.size ≤ N) (o : OwInt lo w1 b s n) (hlo : w.heap.size ≤ lo) (hb : Below w.heap.size w w1) :
    RetZ w n (.returned (.agg #[b, s])) ((w1.setCell ⟨N, 0, none⟩ b).setCell ⟨N, 1, none⟩ s) :=
  ⟨b, s, rfl, (o.mono hlo).put2 hN nol02 _ _, below_put2 hb hl _ _⟩
/-- a value of one cell may be stored -/
theorem OneC.st {v : Value} (h : v.oneCell' = true) : ∀ (a : Addr) (m : Mode) (w : World), (Go.store a v m).run Try.prog w = stored Try.prog w a v m := fun a m w => run_store Try.prog w a v m h
theorem IsRat.st {w : World} {b s t : Value} {r : Rat} {K : Nat} (h : IsRat w b s t r K) : (∀ (a : Addr) (m : Mode) (w : World), (Go.store a b m).run Try.prog w = stored Try.prog w a b m) ∧ (∀ (a : Addr) (m : Mode) (w : World), (Go.store a s m).run Try.prog w = stored Try.prog w a s m) ∧ (∀ (a : Addr) (m : Mode) (w : World), (Go.store a t m).run Try.prog w = stored Try.prog w a t m) := by
  obtain ⟨p, A, xs, c, B, ys, d, rfl, rfl, rfl, ha, hd, hs, ht, h1, hr⟩ := h
  exact ⟨OneC.st rfl, OneC.st rfl, OneC.st rfl⟩
theorem OwRat.st {lo : Nat} {w : World} {b s t : Value} {r : Rat} (h : OwRat lo w b s t r) : (∀ (a : Addr) (m : Mode) (w : World), (Go.store a b m).run Try.prog w = stored Try.prog w a b m) ∧ (∀ (a : Addr) (m : Mode) (w : World), (Go.store a s m).run Try.prog w = stored Try.prog w a s m) ∧ (∀ (a : Addr) (m : Mode) (w : World), (Go.store a t m).run Try.prog w = stored Try.prog w a t m) := by
  obtain ⟨A, c, B, d, rfl, rfl, rfl, ha, hd⟩ := h
  exact ⟨OneC.st rfl, OneC.st rfl, OneC.st rfl⟩
theorem IsInt.st {w : World} {b s : Value} {n : Int} {K : Nat} (h : IsInt w b s n K) : (∀ (a : Addr) (m : Mode) (w : World), (Go.store a b m).run Try.prog w = stored Try.prog w a b m) ∧ (∀ (a : Addr) (m : Mode) (w : World), (Go.store a s m).run Try.prog w = stored Try.prog w a s m) := by
  obtain ⟨p, A, xs, c, rfl, rfl, ha, hs, hn⟩ := h
  exact ⟨OneC.st rfl, OneC.st rfl⟩
theorem OwInt.st {lo : Nat} {w : World} {b s : Value} {n : Int} (h : OwInt lo w b s n) : (∀ (a : Addr) (m : Mode) (w : World), (Go.store a b m).run Try.prog w = stored Try.prog w a b m) ∧ (∀ (a : Addr) (m : Mode) (w : World), (Go.store a s m).run Try.prog w = stored Try.prog w a s m) := by
  obtain ⟨A, c, rfl, rfl, ha⟩ := h
  exact ⟨OneC.st rfl, OneC.st rfl⟩
/-- such a value is one cell -/
theorem IsRat.cl {w : World} {b s t : Value} {r : Rat} {K : Nat} (h : IsRat w b s t r K) : (∀ cs, b = .agg cs → False) ∧ (∀ cs, s = .agg cs → False) ∧ (∀ cs, t = .agg cs → False) := by
  obtain ⟨p, A, xs, c, B, ys, d, rfl, rfl, rfl, ha, hd, hs, ht, h1, hr⟩ := h
  exact ⟨(by intro _ e; cases e), (by intro _ e; cases e), (by intro _ e; cases e)⟩
theorem OwRat.cl {lo : Nat} {w : World} {b s t : Value} {r : Rat} (h : OwRat lo w b s t r) : (∀ cs, b = .agg cs → False) ∧ (∀ cs, s = .agg cs → False) ∧ (∀ cs, t = .agg cs → False) := by
  obtain ⟨A, c, B, d, rfl, rfl, rfl, ha, hd⟩ := h
  exact ⟨(by intro _ e; cases e), (by intro _ e; cases e), (by intro _ e; cases e)⟩
theorem IsInt.cl {w : World} {b s : Value} {n : Int} {K : Nat} (h : IsInt w b s n K) : (∀ cs, b = .agg cs → False) ∧ (∀ cs, s = .agg cs → False) := by
  obtain ⟨p, A, xs, c, rfl, rfl, ha, hs, hn⟩ := h
  exact ⟨(by intro _ e; cases e), (by intro _ e; cases e)⟩
theorem OwInt.cl {lo : Nat} {w : World} {b s : Value} {n : Int} (h : OwInt lo w b s n) : (∀ cs, b = .agg cs → False) ∧ (∀ cs, s = .agg cs → False) := by
  obtain ⟨A, c, rfl, rfl, ha⟩ := h
  exact ⟨(by intro _ e; cases e), (by intro _ e; cases e)⟩

/- Contracts of integer, rational and of their references in terms of opaque values. -/

theorem IAdd_v {w : World} {b s b' s' : Value} {m n : Int} {K : Nat} {q : Int} (h : IsInt w b s m K) (h' : IsInt w b' s' n K) (hK : K ≤ 1099511627776) (e : m + n = q) : Calls Try.prog 62 #[.agg #[b, s], .agg #[b', s']] w (RetZ w q) := by
  obtain ⟨p, A, xs, c, rfl, rfl, ha, hs, hm⟩ := h
  obtain ⟨p', A', xs', c', rfl, rfl, ha', hs', hm'⟩ := h'
  exact (IAdd_n p p' A A' xs xs' c c' w m n q K K ha ha' hs hs' hm hm' e (by omega) (by omega)).mono fun _ _ h => h.z
theorem ISub_v {w : World} {b s b' s' : Value} {m n : Int} {K : Nat} {q : Int} (h : IsInt w b s m K) (h' : IsInt w b' s' n K) (hK : K ≤ 1099511627776) (e : m - n = q) : Calls Try.prog 87 #[.agg #[b, s], .agg #[b', s']] w (RetZ w q) := by
  obtain ⟨p, A, xs, c, rfl, rfl, ha, hs, hm⟩ := h
  obtain ⟨p', A', xs', c', rfl, rfl, ha', hs', hm'⟩ := h'
  exact (ISub_n p p' A A' xs xs' c c' w m n q K K ha ha' hs hs' hm hm' e (by omega) (by omega)).mono fun _ _ h => h.z
theorem IMul_v {w : World} {b s b' s' : Value} {m n : Int} {K : Nat} {q : Int} (h : IsInt w b s m K) (h' : IsInt w b' s' n K) (hK : K ≤ 1099511627776) (e : m * n = q) : Calls Try.prog 63 #[.agg #[b, s], .agg #[b', s']] w (RetZ w q) := by
  obtain ⟨p, A, xs, c, rfl, rfl, ha, hs, hm⟩ := h
  obtain ⟨p', A', xs', c', rfl, rfl, ha', hs', hm'⟩ := h'
  exact (IMul_n p p' A A' xs xs' c c' w m n q K K ha ha' hs hs' hm hm' e (by omega)).mono fun _ _ h => h.z
theorem INeg_v {w : World} {b s : Value} {m : Int} {K : Nat} {q : Int} (h : IsInt w b s m K) (hK : K ≤ 1099511627776) (e : -m = q) : Calls Try.prog 60 #[.agg #[b, s]] w (RetZ w q) := by
  obtain ⟨p, A, xs, c, rfl, rfl, ha, hs, hm⟩ := h
  exact (INeg_n p A xs c w m q K ha hs hm e (by omega)).mono fun _ _ h => h.z
theorem INorm_v {w : World} {b s : Value} {m : Int} {K : Nat} {q : Int} (h : IsInt w b s m K) (hK : K ≤ 1099511627776) (e : m = q) : Calls Try.prog 92 #[.agg #[b, s]] w (RetZ w q) := by
  obtain ⟨p, A, xs, c, rfl, rfl, ha, hs, hm⟩ := h
  exact (INorm_n p A xs c w q K ha hs (hm.trans e) (by omega)).mono fun _ _ h => h.z
theorem ICmp_v {w : World} {b s b' s' : Value} {m n : Int} {K : Nat} {q : Int} (h : IsInt w b s m K) (h' : IsInt w b' s' n K) (_hK : K ≤ 1099511627776) (e : cmpI m n = q) : Calls Try.prog 68 #[.agg #[b, s], .agg #[b', s']] w (RetI w q) := by
  obtain ⟨p, A, xs, c, rfl, rfl, ha, hs, hm⟩ := h
  obtain ⟨p', A', xs', c', rfl, rfl, ha', hs', hm'⟩ := h'
  exact (ICompare_e p p' q A A' xs xs' c c' w ha ha' (by rw [hm, hm']; exact e)).mono fun _ _ h => h
theorem ISign_v {w : World} {b s : Value} {m : Int} {K : Nat} {q : Int} (h : IsInt w b s m K) (_hK : K ≤ 1099511627776) (e : sgn m = q) : Calls Try.prog 66 #[.agg #[b, s]] w (RetI w q) := by
  obtain ⟨p, A, xs, c, rfl, rfl, ha, hs, hm⟩ := h
  exact ((by rw [← e, ← hm]; exact Sign_c p A xs c w ha : Calls Try.prog 66 #[.agg #[.bool p, .slice A xs.length c]] w (RetI w q))).mono fun _ _ h => h
theorem rIAdd_v {w : World} {b s b' s' : Value} {m n : Int} {K : Nat} {q : Int} (h : IsInt w b s m K) (h' : IsInt w b' s' n K) (hK : K ≤ 1099511627776) (e : m + n = q) : Calls Try.prog 77 #[.agg #[b, s], .agg #[b', s']] w (RetZ w q) := by
  obtain ⟨p, A, xs, c, rfl, rfl, ha, hs, hm⟩ := h
  obtain ⟨p', A', xs', c', rfl, rfl, ha', hs', hm'⟩ := h'
  exact (rIAdd_n p p' A A' xs xs' c c' w m n q K K ha ha' hs hs' hm hm' e (by omega) (by omega)).mono fun _ _ h => h.z
theorem rISub_v {w : World} {b s b' s' : Value} {m n : Int} {K : Nat} {q : Int} (h : IsInt w b s m K) (h' : IsInt w b' s' n K) (hK : K ≤ 1099511627776) (e : m - n = q) : Calls Try.prog 52 #[.agg #[b, s], .agg #[b', s']] w (RetZ w q) := by
  obtain ⟨p, A, xs, c, rfl, rfl, ha, hs, hm⟩ := h
  obtain ⟨p', A', xs', c', rfl, rfl, ha', hs', hm'⟩ := h'
  exact (rISub_n p p' A A' xs xs' c c' w m n q K K ha ha' hs hs' hm hm' e (by omega) (by omega)).mono fun _ _ h => h.z
theorem rIMul_v {w : World} {b s b' s' : Value} {m n : Int} {K : Nat} {q : Int} (h : IsInt w b s m K) (h' : IsInt w b' s' n K) (hK : K ≤ 1099511627776) (e : m * n = q) : Calls Try.prog 102 #[.agg #[b, s], .agg #[b', s']] w (RetZ w q) := by
  obtain ⟨p, A, xs, c, rfl, rfl, ha, hs, hm⟩ := h
  obtain ⟨p', A', xs', c', rfl, rfl, ha', hs', hm'⟩ := h'
  exact (rIMul_n p p' A A' xs xs' c c' w m n q K K ha ha' hs hs' hm hm' e (by omega)).mono fun _ _ h => h.z
theorem rICmp_v {w : World} {b s b' s' : Value} {m n : Int} {K : Nat} {q : Int} (h : IsInt w b s m K) (h' : IsInt w b' s' n K) (hK : K ≤ 1099511627776) (e : cmpI m n = q) : Calls Try.prog 12 #[.agg #[b, s], .agg #[b', s']] w (RetI w q) := by
  obtain ⟨p, A, xs, c, rfl, rfl, ha, hs, hm⟩ := h
  obtain ⟨p', A', xs', c', rfl, rfl, ha', hs', hm'⟩ := h'
  exact ((by rw [← e, ← hm, ← hm']; exact rICompare_c p p' A A' xs xs' c c' w K ha ha' hs hs' (by omega) : Calls Try.prog 12 #[.agg #[.bool p, .slice A xs.length c], .agg #[.bool p', .slice A' xs'.length c']] w (RetI w q))).mono fun _ _ h => h
theorem rISign_v {w : World} {b s : Value} {m : Int} {K : Nat} {q : Int} (h : IsInt w b s m K) (hK : K ≤ 1099511627776) (e : sgn m = q) : Calls Try.prog 51 #[.agg #[b, s]] w (RetI w q) := by
  obtain ⟨p, A, xs, c, rfl, rfl, ha, hs, hm⟩ := h
  exact (rSign_e p A xs c w m q ha (by omega) hm e).mono fun _ _ h => h
theorem rINorm_v {w : World} {b s : Value} {m : Int} {K : Nat} {q : Int} (h : IsInt w b s m K) (hK : K ≤ 1099511627776) (e : m = q) : Calls Try.prog 84 #[.agg #[b, s]] w (RetZ w q) := by
  obtain ⟨p, A, xs, c, rfl, rfl, ha, hs, hm⟩ := h
  exact (rNorm_n p A xs c w q K ha hs (hm.trans e) (by omega)).mono fun _ _ h => h.z
theorem IFromInt_v {w : World} {v q : Int} (h1 : -9223372036854775808 ≤ v) (h2 : v ≤ 9223372036854775807) (e : v = q) : Calls Try.prog 67 #[.int .i64 v] w (RetZ w q) :=
  (FromInt_o v q w h1 h2 e).mono fun _ _ h => h.z
theorem rIFromInt_v {w : World} {v q : Int} (h1 : -9223372036854775808 ≤ v) (h2 : v ≤ 9223372036854775807) (e : v = q) : Calls Try.prog 16 #[.int .i64 v] w (RetZ w q) :=
  (rFromInt_n v q w h1 h2 e).mono fun _ _ h => h.z
/-- quotient, remainder and true -/
def RetZZ (w : World) (q r : Int) (e : Ending) (w' : World) : Prop := ∃ b s b' s', e = .returned (.tuple #[.agg #[b, s], .agg #[b', s'], .bool true]) ∧ OwInt w.heap.size w' b s q ∧ OwInt w.heap.size w' b' s' r ∧ Below w.heap.size w w'
theorem RetDivI.z {w w' : World} {q r : Int} {e : Ending} (h : RetDivI w q r e w') : RetZZ w q r e w' := by
  obtain ⟨A, c, B, d, rfl, h1, h2, h3⟩ := h
  exact ⟨_, _, _, _, rfl, ⟨A, c, rfl, rfl, h1⟩, ⟨B, d, rfl, rfl, h2⟩, h3⟩
theorem IDivMod_v {w : World} {b s b' s' : Value} {m n : Int} {K : Nat} {q r : Int} (h : IsInt w b s m K) (h' : IsInt w b' s' n K) (hK : K ≤ 1099511627776) (h0 : n ≠ 0) (e : m / n = q) (e2 : m % n = r) : Calls Try.prog 82 #[.agg #[b, s], .agg #[b', s']] w (RetZZ w q r) := by
  obtain ⟨p, A, xs, c, rfl, rfl, ha, hs, hm⟩ := h
  obtain ⟨p', A', xs', c', rfl, rfl, ha', hs', hm'⟩ := h'
  exact (IDivMod_n p p' A A' xs xs' c c' w m n q r K K ha ha' hs hs' hm hm' h0 e e2 (by omega) (by omega)).mono fun _ _ h => h.z
theorem rIDivMod_v {w : World} {b s b' s' : Value} {m n : Int} {K : Nat} {q r : Int} (h : IsInt w b s m K) (h' : IsInt w b' s' n K) (hK : K ≤ 1099511627776) (h0 : n ≠ 0) (e : m / n = q) (e2 : m % n = r) : Calls Try.prog 71 #[.agg #[b, s], .agg #[b', s']] w (RetZZ w q r) := by
  obtain ⟨p, A, xs, c, rfl, rfl, ha, hs, hm⟩ := h
  obtain ⟨p', A', xs', c', rfl, rfl, ha', hs', hm'⟩ := h'
  exact (rIDivMod_n p p' A A' xs xs' c c' w m n q r K K ha ha' hs hs' hm hm' h0 e e2 (by omega) (by omega)).mono fun _ _ h => h.z
theorem rIGCD_v {w : World} {b s b' s' : Value} {m n : Int} {K : Nat} {q : Int} (h : IsInt w b s m K) (h' : IsInt w b' s' n K) (hK : K ≤ 1099511627776) (e : ((Nat.gcd m.natAbs n.natAbs : Nat) : Int) = q) : Calls Try.prog 85 #[.agg #[b, s], .agg #[b', s']] w (RetZ w q) := by
  obtain ⟨p, A, xs, c, rfl, rfl, ha, hs, hm⟩ := h
  obtain ⟨p', A', xs', c', rfl, rfl, ha', hs', hm'⟩ := h'
  exact (rIGCD_n p p' A A' xs xs' c c' w m n q K K ha ha' hs hs' hm hm' e (by omega) (by omega)).mono fun _ _ h => h.z
theorem can_int_eq {m n : Int} : decide (decide (m < 0) = decide (n < 0) ∧ limbs m.natAbs = limbs n.natAbs) = decide (m = n) := by
  rw [decide_eq_decide]
  constructor
  · rintro ⟨h1, h2⟩
    have h3 := congrArg val h2
    rw [val_limbs, val_limbs] at h3
    rw [decide_eq_decide] at h1
    omega
  · rintro rfl; exact ⟨rfl, rfl⟩
/-- Equal of canonical integers -/
theorem rIEq_v {w : World} {lo lo' : Nat} {b s b' s' : Value} {m n : Int} {K : Nat} {q : Bool} (h : OwInt lo w b s m) (h' : OwInt lo' w b' s' n) (z : SzI m K) (z' : SzI n K) (hK : K ≤ 1099511627776) (e : decide (m = n) = q) : Calls Try.prog 35 #[.agg #[b, s], .agg #[b', s']] w (RetB w q) := by
  obtain ⟨A, c, rfl, rfl, ha⟩ := h
  obtain ⟨A', c', rfl, rfl, ha'⟩ := h'
  unfold SzI at z z'
  have k := rIEqual_c (decide (m < 0)) (decide (n < 0)) A A' (limbs m.natAbs) (limbs n.natAbs) c c' w ha.lim ha'.lim (by omega) (by omega)
  rw [can_int_eq, e] at k
  exact k
theorem rEqN_v {w : World} {lo lo' : Nat} {b s b' s' : Value} {m n : Nat} {K : Nat} {q : Bool} (h : OwInt lo w b s (m : Int)) (h' : OwInt lo' w b' s' (n : Int)) (z : SzI (m : Int) K) (z' : SzI (n : Int) K) (hK : K ≤ 1099511627776) (e : decide (m = n) = q) : Calls Try.prog 49 #[s, s'] w (RetB w q) := by
  obtain ⟨A, c, rfl, rfl, ha⟩ := h
  obtain ⟨A', c', rfl, rfl, ha'⟩ := h'
  unfold SzI at z z'
  rw [Int.natAbs_natCast] at z z' ha ha'
  have k := rEqual_c A A' (limbs m) (limbs n) c c' w ha.lim ha'.lim (by omega) (by omega)
  have hd : decide (limbs m = limbs n) = decide (m = n) := by
    rw [decide_eq_decide]
    exact ⟨fun h => by have h3 := congrArg val h; rw [val_limbs, val_limbs] at h3; exact h3, fun h => by rw [h]⟩
  rw [hd, e] at k
  rw [Int.natAbs_natCast, Int.natAbs_natCast]
  refine k.mono ?_
  rintro e w' ⟨rfl, n, rfl⟩
  exact ⟨rfl, below_drewN (Below.refl _ _) n⟩
theorem RNorm_v {w : World} {b s t : Value} {r : Rat} {K : Nat} {q : Rat} (h : IsRat w b s t r K) (hK : K ≤ 1099511627776) (e : r = q) : Calls Try.prog 21 #[.agg #[b, s, t]] w (RetR w q) := by
  obtain ⟨p, A, xs, c, B, ys, d, rfl, rfl, rfl, ha, hb, hs, ht, h1, hr⟩ := h
  exact (RNorm_c p A B xs ys c d w q K ha hb hs ht h1 (by omega) (hr.trans e)).mono fun _ _ h => h.r
theorem RNeg_v {w : World} {b s t : Value} {r : Rat} {K : Nat} {q : Rat} (h : IsRat w b s t r K) (hK : K ≤ 1099511627776) (e : -r = q) : Calls Try.prog 22 #[.agg #[b, s, t]] w (RetR w q) := by
  obtain ⟨p, A, xs, c, B, ys, d, rfl, rfl, rfl, ha, hb, hs, ht, h1, hr⟩ := h
  exact (RNeg_c p A B xs ys c d w r q K ha hb hs ht h1 (by omega) hr e).mono fun _ _ h => h.r
theorem RSign_v {w : World} {b s t : Value} {r : Rat} {K : Nat} {q : Int} (h : IsRat w b s t r K) (_hK : K ≤ 1099511627776) (e : sgn r.num = q) : Calls Try.prog 42 #[.agg #[b, s, t]] w (RetI w q) := by
  obtain ⟨p, A, xs, c, B, ys, d, rfl, rfl, rfl, ha, hb, hs, ht, h1, hr⟩ := h
  exact (RSign_c p A B xs ys c d w r q ha hb hr e).mono fun _ _ h => h
theorem RFloor_v {w : World} {b s t : Value} {r : Rat} {K : Nat} {q : Int} (h : IsRat w b s t r K) (hK : K ≤ 1099511627776) (e : r.floor = q) : Calls Try.prog 30 #[.agg #[b, s, t]] w (RetZ w q) := by
  obtain ⟨p, A, xs, c, B, ys, d, rfl, rfl, rfl, ha, hb, hs, ht, h1, hr⟩ := h
  exact (RFloor_c p A B xs ys c d w r q K ha hb hs ht h1 (by omega) hr e).mono fun _ _ h => h.z
theorem RRound_v {w : World} {b s t : Value} {r : Rat} {K : Nat} {q : Int} (h : IsRat w b s t r K) (hK : K ≤ 1099511627776) (e : rrnd r = q) : Calls Try.prog 32 #[.agg #[b, s, t]] w (RetZ w q) := by
  obtain ⟨p, A, xs, c, B, ys, d, rfl, rfl, rfl, ha, hb, hs, ht, h1, hr⟩ := h
  exact (RRound_c p A B xs ys c d w r q K ha hb hs ht h1 (by omega) hr e).mono fun _ _ h => h.z
theorem RSize_v {w : World} {b s t : Value} {r : Rat} {K : Nat} {q : Nat} (h : IsRat w b s t r K) (hK : K ≤ 1099511627776) (e : rsz r = q) : Calls Try.prog 69 #[.agg #[b, s, t]] w (RetI w (q : Int)) := by
  obtain ⟨p, A, xs, c, B, ys, d, rfl, rfl, rfl, ha, hb, hs, ht, h1, hr⟩ := h
  exact (RSize_c p A B xs ys c d w r q K ha hb hs ht h1 (by omega) hr e).mono fun _ _ h => h
theorem RAdd_v {w : World} {b s t b' s' t' : Value} {r r' : Rat} {K : Nat} {q : Rat} (h : IsRat w b s t r K) (h' : IsRat w b' s' t' r' K) (hK : K ≤ 1099511627776) (e : r + r' = q) : Calls Try.prog 23 #[.agg #[b, s, t], .agg #[b', s', t']] w (RetR w q) := by
  obtain ⟨p, A, xs, c, B, ys, d, rfl, rfl, rfl, ha, hb, hs, ht, h1, hr⟩ := h
  obtain ⟨p', A', xs', c', B', ys', d', rfl, rfl, rfl, ha', hb', hs', ht', h1', hr'⟩ := h'
  exact (RAdd_c p p' A B A' B' xs ys xs' ys' c d c' d' w r r' q K ha hb ha' hb' hs ht hs' ht' h1 (by omega) hr hr' e).mono fun _ _ h => h.r
theorem RMul_v {w : World} {b s t b' s' t' : Value} {r r' : Rat} {K : Nat} {q : Rat} (h : IsRat w b s t r K) (h' : IsRat w b' s' t' r' K) (hK : K ≤ 1099511627776) (e : r * r' = q) : Calls Try.prog 25 #[.agg #[b, s, t], .agg #[b', s', t']] w (RetR w q) := by
  obtain ⟨p, A, xs, c, B, ys, d, rfl, rfl, rfl, ha, hb, hs, ht, h1, hr⟩ := h
  obtain ⟨p', A', xs', c', B', ys', d', rfl, rfl, rfl, ha', hb', hs', ht', h1', hr'⟩ := h'
  exact (RMul_c p p' A B A' B' xs ys xs' ys' c d c' d' w r r' q K ha hb ha' hb' hs ht hs' ht' h1 (by omega) hr hr' e).mono fun _ _ h => h.r
theorem RInvY_v {w : World} {b s t : Value} {r : Rat} {K : Nat} {q : Rat} (h : IsRat w b s t r K) (hK : K ≤ 1099511627776) (h0 : r ≠ 0) (e : r⁻¹ = q) : Calls Try.prog 19 #[.agg #[b, s, t]] w (RetRY w q) := by
  obtain ⟨p, A, xs, c, B, ys, d, rfl, rfl, rfl, ha, hb, hs, ht, h1, hr⟩ := h
  exact (RInvY_c p A B xs ys c d w r q K ha hb hs ht h1 (by omega) hr h0 e).mono fun _ _ h => h.r
theorem RInvN_v {w : World} {b s t : Value} {r : Rat} {K : Nat} (h : IsRat w b s t r K) (h0 : r = 0) : Calls Try.prog 19 #[.agg #[b, s, t]] w (RetRatN w) := by
  obtain ⟨p, A, xs, c, B, ys, d, rfl, rfl, rfl, ha, hb, hs, ht, h1, hr⟩ := h
  exact RInvN_c p A B xs ys c d w r ha hb hr h0
theorem rRNorm_v {w : World} {b s t : Value} {r : Rat} {K : Nat} {q : Rat} (h : IsRat w b s t r K) (hK : K ≤ 1099511627776) (e : r = q) : Calls Try.prog 11 #[.agg #[b, s, t]] w (RetR w q) := by
  obtain ⟨p, A, xs, c, B, ys, d, rfl, rfl, rfl, ha, hb, hs, ht, h1, hr⟩ := h
  exact (rRNorm_c p A B xs ys c d w q K ha hb hs ht (by omega) (hr.trans e)).mono fun _ _ h => h.r
theorem rZero_v {w : World} : Calls Try.prog 83 #[] w (RetR w 0) := (rZero_c w).mono fun _ _ h => h.r
theorem rROf_v {w : World} {n d : Int} {q : Rat} (h1 : -9223372036854775808 ≤ n) (h2 : n ≤ 9223372036854775807) (d1 : 1 ≤ d) (d2 : d ≤ 9223372036854775807) (e : mkRat n d.toNat = q) : Calls Try.prog 41 #[.int .i64 n, .int .i64 d] w (RetR w q) :=
  (rOf_c n d w q h1 h2 d1 d2 e).mono fun _ _ h => h.r
theorem rRFromInt_v {w : World} {n : Int} {q : Rat} (h1 : -9223372036854775808 ≤ n) (h2 : n ≤ 9223372036854775807) (e : mkRat n 1 = q) : Calls Try.prog 76 #[.int .i64 n] w (RetR w q) :=
  (rRFromInt_c n w q h1 h2 e).mono fun _ _ h => h.r
theorem rMake_v {w : World} {b s b' s' : Value} {m n : Int} {D K : Nat} {q : Rat} (h : IsInt w b s m K) (h' : IsInt w b' s' n K) (hK : K ≤ 1099511627776) (hn : n = (D : Int)) (e : mkRat m D = q) : Calls Try.prog 50 #[.agg #[b, s], .agg #[b', s']] w (RetR w q) := by
  obtain ⟨p, A, xs, c, rfl, rfl, ha, hs, hm⟩ := h
  obtain ⟨p', A', xs', c', rfl, rfl, ha', hs', hm'⟩ := h'
  exact (rMake_c p p' A A' xs xs' c c' w m D q K ha ha' hs hs' (by omega) hm (hm'.trans hn) e).mono fun _ _ h => h.r

/- Contracts of cmp.Compare, rational.Compare, Sub. -/

theorem isNaN_i (x : Int) (w : World) : Calls Try.prog 105 #[.int .i64 x] w (RetB w false) := by
  go_enter Try.func105, Try.ntmps105
  go_wp2
  go_ret
  exact ⟨by simp, Below.refl _ _⟩
theorem isNaN_l (x : Int) (w : World) : Calls Try.prog 106 #[.int .i64 x] w (RetB w false) := by
  go_enter Try.func106, Try.ntmps106
  go_wp2
  go_ret
  exact ⟨by simp, Below.refl _ _⟩

set_option maxRecDepth 100000 in
theorem cmp_i {x y q : Int} {w : World} (e : cmpI x y = q) : Calls Try.prog 78 #[.int .i64 x, .int .i64 y] w (RetI w q) := by
  unfold cmpI at e
  go_enter Try.func78, Try.ntmps78
  go_wp2_with fail
  refine (isNaN_i x _).mono ?_
  rintro e w1 ⟨rfl, g1⟩
  go_wp2_with fail
  refine (isNaN_i y _).mono ?_
  rintro e w2 ⟨rfl, g2⟩
  have hb := g1.trans (g2.mono g1.size)
  by_cases h1 : x < y
  · rw [if_pos h1] at e
    go_wp2_with fail
    go_ret
    exact ⟨by rw [← e]; rfl, hb⟩
  · rw [if_neg h1] at e
    by_cases h2 : y < x
    · rw [if_pos h2] at e
      go_wp2_with fail
      go_ret
      exact ⟨by rw [← e]; rfl, hb⟩
    · rw [if_neg h2] at e
      go_wp2_with fail
      go_ret
      exact ⟨by rw [← e]; rfl, hb⟩
set_option maxRecDepth 100000 in
theorem cmp_l {x y q : Int} {w : World} (e : cmpI x y = q) : Calls Try.prog 79 #[.int .i64 x, .int .i64 y] w (RetI w q) := by
  unfold cmpI at e
  go_enter Try.func79, Try.ntmps79
  go_wp2_with fail
  refine (isNaN_l x _).mono ?_
  rintro e w1 ⟨rfl, g1⟩
  go_wp2_with fail
  refine (isNaN_l y _).mono ?_
  rintro e w2 ⟨rfl, g2⟩
  have hb := g1.trans (g2.mono g1.size)
  by_cases h1 : x < y
  · rw [if_pos h1] at e
    go_wp2_with fail
    go_ret
    exact ⟨by rw [← e]; rfl, hb⟩
  · rw [if_neg h1] at e
    by_cases h2 : y < x
    · rw [if_pos h2] at e
      go_wp2_with fail
      go_ret
      exact ⟨by rw [← e]; rfl, hb⟩
    · rw [if_neg h2] at e
      go_wp2_with fail
      go_ret
      exact ⟨by rw [← e]; rfl, hb⟩

/-- the comparison of rational numbers -/
def cmpR (r s : Rat) : Int := if r < s then -1 else if s < r then 1 else 0
theorem mk_pos {n : Int} {d : Nat} (h : d ≠ 0) : 0 < mkRat n d ↔ 0 < n := by
  rw [Rat.lt_iff]
  show 0 * ((mkRat n d).den : Int) < (mkRat n d).num * 1 ↔ _
  rw [Int.zero_mul, Int.mul_one]
  have := mkRat_sgn (n := n) h
  unfold sgn at this
  split at this <;> (try split at this) <;> (try split at this) <;> (try split at this) <;> omega
theorem mk_lt {n m : Int} {d e : Nat} (h1 : d ≠ 0) (h2 : e ≠ 0) : mkRat n d < mkRat m e ↔ n * (e : Int) < m * (d : Int) := by
  have k : mkRat m e - mkRat n d = mkRat (m * (d : Int) - n * (e : Int)) (e * d) := by
    rw [← Rat.divInt_ofNat, ← Rat.divInt_ofNat, Rat.divInt_sub_divInt _ _ (by omega) (by omega), ← Int.natCast_mul, Rat.divInt_ofNat]
  rw [Rat.lt_iff_sub_pos, k, mk_pos (Nat.mul_ne_zero h2 h1)]
  omega
theorem cmpR_mk {n m : Int} {d e : Nat} (h1 : d ≠ 0) (h2 : e ≠ 0) : cmpR (mkRat n d) (mkRat m e) = cmpI (n * (e : Int)) (m * (d : Int)) := by
  unfold cmpR cmpI
  simp only [mk_lt h1 h2, mk_lt h2 h1]
theorem sgn_lt {r s : Rat} (h : sgn r.num < sgn s.num) : r < s := by
  rw [Rat.lt_iff]
  have a : 0 < (r.den : Int) := by have := r.den_nz; omega
  have b : 0 < (s.den : Int) := by have := s.den_nz; omega
  unfold sgn at h
  by_cases h1 : r.num < 0
  · have k1 : r.num * (s.den : Int) < 0 := Int.mul_neg_of_neg_of_pos h1 b
    by_cases h2 : s.num < 0
    · rw [if_pos h1, if_pos h2] at h; omega
    · have k2 : 0 ≤ s.num * (r.den : Int) := Int.mul_nonneg (by omega) (by omega)
      omega
  · rw [if_neg h1] at h
    by_cases h3 : 0 < r.num
    · rw [if_pos h3] at h
      split at h <;> (try split at h) <;> omega
    · have h4 : r.num = 0 := by omega
      rw [if_neg h3] at h
      by_cases h2 : s.num < 0
      · rw [if_pos h2] at h; omega
      · by_cases h5 : 0 < s.num
        · rw [h4, Int.zero_mul]; exact Int.mul_pos h5 a
        · rw [if_neg h2, if_neg h5] at h; omega
theorem cmpR_sgn {r s : Rat} (h : sgn r.num ≠ sgn s.num) : cmpR r s = cmpI (sgn r.num) (sgn s.num) := by
  rcases Int.lt_or_gt_of_ne h with h1 | h1
  · unfold cmpR cmpI; rw [if_pos (sgn_lt h1), if_pos h1]
  · unfold cmpR cmpI
    rw [if_neg (Rat.not_lt.2 (Rat.le_of_lt (sgn_lt h1))), if_pos (sgn_lt h1), if_neg (by omega), if_pos h1]
theorem Sm.cmp {p q : Bool} {xs ys us vs : List Nat} {n d m e : Int} (h : Sm p xs ys n d) (k : Sm q us vs m e) : (-4611686014132420609 ≤ n * e ∧ n * e ≤ 4611686014132420609) ∧ (-4611686014132420609 ≤ m * d ∧ m * d ≤ 4611686014132420609) ∧ cmpI (n * e) (m * d) = cmpR (rv p xs ys) (rv q us vs) := by
  obtain ⟨a1, a2, _, _⟩ := Sm.add h k
  obtain ⟨h1, h2, h3, h4, h5⟩ := h
  obtain ⟨k1, k2, k3, k4, k5⟩ := k
  refine ⟨a1, a2, ?_⟩
  rw [← h5, ← k5, cmpR_mk (by omega) (by omega), show ((d.toNat : Nat) : Int) = d by omega, show ((e.toNat : Nat) : Int) = e by omega]

/-- what small tells of a number -/
def SmR (r : Rat) (n d : Int) : Prop := -2147483647 ≤ n ∧ n ≤ 2147483647 ∧ 1 ≤ d ∧ d ≤ 2147483647 ∧ mkRat n d.toNat = r
theorem small_v {w : World} {b s t : Value} {r : Rat} {K : Nat} (h : IsRat w b s t r K) : Calls Try.prog 56 #[.agg #[b, s, t]] w (fun e w' => ∃ n d o, e = .returned (.tuple #[.int .i64 n, .int .i64 d, .bool o]) ∧ (o = true → SmR r n d) ∧ Below w.heap.size w w') := by
  obtain ⟨p, A, xs, c, B, ys, d, rfl, rfl, rfl, ha, hb, hs, ht, h1, hr⟩ := h
  refine (small_any p A B xs ys c d w ha hb).mono ?_
  rintro e w1 ⟨n1, d1, o1, rfl, sm1, b1⟩
  refine ⟨n1, d1, o1, rfl, fun ho => ?_, b1⟩
  obtain ⟨a1, a2, a3, a4, a5⟩ := sm1 ho
  exact ⟨a1, a2, a3, a4, a5.trans hr⟩
theorem parts_v {w : World} {b s t : Value} {r : Rat} {K : Nat} (h : IsRat w b s t r K) : Calls Try.prog 59 #[.agg #[b, s, t]] w (fun e w' => ∃ b' s' t' n, ∃ D : Nat, e = .returned (.tuple #[.agg #[b', s'], t']) ∧ IsInt w' b' s' n K ∧ IsInt w' (.bool false) t' (D : Int) K ∧ D ≠ 0 ∧ mkRat n D = r ∧ Below w.heap.size w w') := by
  obtain ⟨p, A, xs, c, B, ys, d, rfl, rfl, rfl, ha, hb, hs, ht, h1, hr⟩ := h
  refine (parts_c p A B xs ys c d w r K ha hb hs ht h1 hr).mono ?_
  rintro e w2 ⟨q, A', xs', c', B', ys', d', rfl, la, lb, hs', ht', hne, hrv, b2⟩
  exact ⟨_, _, _, iv q xs', val ys', rfl, ⟨q, A', xs', c', rfl, rfl, la, hs', rfl⟩, ⟨false, B', ys', d', rfl, rfl, lb, ht', rfl⟩, hne, hrv, b2⟩
theorem SmR.cmp {r s : Rat} {n d m e : Int} (h : SmR r n d) (k : SmR s m e) : (-4611686014132420609 ≤ n * e ∧ n * e ≤ 4611686014132420609) ∧ (-4611686014132420609 ≤ m * d ∧ m * d ≤ 4611686014132420609) ∧ cmpI (n * e) (m * d) = cmpR r s := by
  obtain ⟨h1, h2, h3, h4, h5⟩ := h
  obtain ⟨k1, k2, k3, k4, k5⟩ := k
  obtain ⟨a1, a2⟩ := abs_mul_le (a := n) (b := e) (A := 2147483647) (B := 2147483647) (by omega) h2 (by omega) k4 (by omega) (by omega)
  obtain ⟨c1, c2⟩ := abs_mul_le (a := m) (b := d) (A := 2147483647) (B := 2147483647) (by omega) k2 (by omega) h4 (by omega) (by omega)
  refine ⟨⟨by omega, by omega⟩, ⟨by omega, by omega⟩, ?_⟩
  rw [← h5, ← k5, cmpR_mk (by omega) (by omega), show ((d.toNat : Nat) : Int) = d by omega, show ((e.toNat : Nat) : Int) = e by omega]

set_option maxRecDepth 100000 in
set_option maxHeartbeats 4000000 in
theorem RCmp_v {w : World} {b s t b' s' t' : Value} {r r' : Rat} {K : Nat} {q : Int} (h : IsRat w b s t r K) (h' : IsRat w b' s' t' r' K) (hK : K ≤ 549755813888) (e : cmpR r r' = q) : Calls Try.prog 40 #[.agg #[b, s, t], .agg #[b', s', t']] w (RetI w q) := by
  obtain ⟨W, hW, hbW, i0, i1⟩ : ∃ W, (w.alloc (.cells #[b, s, t] 26)).alloc (.cells #[b', s', t'] 26) = W ∧ Below w.heap.size w W ∧ Bx3 W (w.heap.size) b s t ∧ Bx3 W (w.heap.size + 1) b' s' t' := ⟨_, rfl, ((Below.refl _ _).alloc (by simp <;> omega) _).alloc (by simp <;> omega) _, by refine ⟨?_, ?_, ?_, ?_, ?_, ?_⟩ <;> go_simp, by refine ⟨?_, ?_, ?_, ?_, ?_, ?_⟩ <;> go_simp⟩
  have ji0 := i0.lt; have x0 := i0.c0; have x1 := i0.c1; have x2 := i0.c2
  have ji1 := i1.lt; have y0 := i1.c0; have y1 := i1.c1; have y2 := i1.c2
  obtain ⟨s1, es1⟩ : ∃ x, sgn r.num = x := ⟨_, rfl⟩
  obtain ⟨s2, es2⟩ : ∃ x, sgn r'.num = x := ⟨_, rfl⟩
  have HW := Lib.hid hW
  have E := Lib.hid e
  have ES1 := Lib.hid es1
  have ES2 := Lib.hid es2
  clear hW e es1 es2
  replace h := h.keep hbW
  replace h' := h'.keep hbW
  have tk0 : True := trivial
  have tk1 : True := trivial
  go_enter Try.func40, Try.ntmps40
  go_wp2_with fail
  rw [HW.out]
  have hBel : Below W.heap.size W W.drew := (Below.refl _ _).drew
  go_region_held3 (fun w' => w'.cell? ⟨w.heap.size, 0, none⟩ = some b ∧ w'.cell? ⟨w.heap.size, 1, none⟩ = some s ∧ w'.cell? ⟨w.heap.size, 2, none⟩ = some t ∧ w'.cell? ⟨w.heap.size + 1, 0, none⟩ = some b' ∧ w'.cell? ⟨w.heap.size + 1, 1, none⟩ = some s' ∧ w'.cell? ⟨w.heap.size + 1, 2, none⟩ = some t')
    (first | (with_reducible exact ⟨cellB hBel ji0 x0, cellB hBel ji0 x1, cellB hBel ji0 x2, cellB hBel ji1 y0, cellB hBel ji1 y1, cellB hBel ji1 y2⟩) | go_keep)
    (first
      | (go_at_call 42; have _t := tk0; clear tk0; refine (RSign_v (h.keep hBel) (by omega) ES1.out).mono ?_; rintro e v0 ⟨rfl, g0⟩; replace hBel := hBel.trans (g0.mono hBel.size))
      | (go_at_call 42; have _t := tk1; clear tk1; refine (RSign_v (h'.keep hBel) (by omega) ES2.out).mono ?_; rintro e v1 ⟨rfl, g1⟩; replace hBel := hBel.trans (g1.mono hBel.size)))
  rename_i hHeld
  clear hHeld
  by_cases hs : s1 = s2
  · replace h := h.keep hBel
    replace h' := h'.keep hBel
    replace i0 := i0.keep hBel
    replace i1 := i1.keep hBel
    have hb := hbW.trans (hBel.mono hbW.size)
    clear hBel hbW x0 x1 x2 y0 y1 y2
    subst hs
    have x0 := i0.c0
    have x1 := i0.c1
    have x2 := i0.c2
    have j0 := i0.lt
    go_wp2_with fail
    refine (small_v h).mono ?_
    rintro e w3 ⟨n3, d3, o3, rfl, sm3, g3⟩
    have SM3 := Lib.hid sm3
    replace h := h.keep g3
    replace h' := h'.keep g3
    replace i0 := i0.keep g3
    replace i1 := i1.keep g3
    replace hb := hb.trans (g3.mono hb.size)
    clear sm3 x0 x1 x2 g3
    have y0 := i1.c0
    have y1 := i1.c1
    have y2 := i1.c2
    have j1 := i1.lt
    go_wp2_with fail
    refine (small_v h').mono ?_
    rintro e w4 ⟨n4, d4, o4, rfl, sm4, g4⟩
    have SM4 := Lib.hid sm4
    replace h := h.keep g4
    replace h' := h'.keep g4
    replace i0 := i0.keep g4
    replace i1 := i1.keep g4
    replace hb := hb.trans (g4.mono hb.size)
    clear sm4 y0 y1 y2 g4
    have x0 := i0.c0
    have x1 := i0.c1
    have x2 := i0.c2
    have y0 := i1.c0
    have y1 := i1.c1
    have y2 := i1.c2
    have j0 := i0.lt
    have j1 := i1.lt
    cases o3 with
    | false =>
      go_wp2_with fail
      refine (parts_v h).mono ?_
      rintro e w5 ⟨b5, s5, t5, n5, D5, rfl, m5, d5, z5, r5, g5⟩
      obtain ⟨q5a, q5b⟩ := m5.st
      have c5 := d5.cl.2
      have bo := bel1 w5 (.cells #[b5, s5] 24)
      have v5 := Bx2.new w5 b5 s5
      obtain ⟨w6, hw6⟩ : ∃ w6, w5.alloc (.cells #[b5, s5] 24) = w6 := ⟨_, rfl⟩
      rw [hw6] at v5 bo
      have b46 := g5.trans (bo.mono g5.size)
      replace m5 := m5.keep bo
      replace d5 := d5.keep bo
      replace h' := h'.keep b46
      replace i1 := i1.keep b46
      replace hb := hb.trans (b46.mono hb.size)
      clear x0 x1 x2 bo b46 g5 i0 h y0 y1 y2
      have y0 := i1.c0
      have y1 := i1.c1
      have y2 := i1.c2
      have j1' := i1.lt
      go_wp2_with fail
      refine (parts_v h').mono ?_
      rintro e w7 ⟨b7, s7, t7, n7, D7, rfl, m7, d7, z7, r7, g7⟩
      obtain ⟨q7a, q7b⟩ := m7.st
      have c7 := d7.cl.2
      have bo := bel1 w7 (.cells #[b7, s7] 24)
      have v7 := Bx2.new w7 b7 s7
      obtain ⟨w8, hw8⟩ : ∃ w8, w7.alloc (.cells #[b7, s7] 24) = w8 := ⟨_, rfl⟩
      rw [hw8] at v7 bo
      have b68 := g7.trans (bo.mono g7.size)
      replace m7 := m7.keep bo
      replace d7 := d7.keep bo
      replace m5 := m5.keep b68
      replace d5 := d5.keep b68
      replace v5 := v5.keep b68
      replace hb := hb.trans (b68.mono hb.size)
      clear bo b68 g7 i1 h' y0 y1 y2 hw6
      obtain ⟨N, eN⟩ : ∃ N : Int, n5 * (D7 : Int) = N := ⟨_, rfl⟩
      obtain ⟨M, eM⟩ : ∃ N : Int, n7 * (D5 : Int) = N := ⟨_, rfl⟩
      have zN : SzI N (K + K) := imul_sz m5.sz d7.sz eN (by omega)
      have zM : SzI M (K + K) := imul_sz m7.sz d5.sz eM (by omega)
      have eq : cmpI N M = q := by rw [← eN, ← eM, ← cmpR_mk z5 z7, r5, r7]; exact E.out
      have EN := Lib.hid eN
      have EM := Lib.hid eM
      have EQ := Lib.hid eq
      clear eN eM eq r5 r7 E
      have jv5 := v5.lt
      have jv7 := v7.lt
      have x0 := v5.c0
      have x1 := v5.c1
      have y0 := v7.c0
      have y1 := v7.c1
      have tk0 : True := trivial
      have tk1 : True := trivial
      have tk2 : True := trivial
      go_wp2_with fail
      try rw [hw8]
      clear hw8
      have hBel : Below w8.heap.size w8 w8.drew := (Below.refl _ _).drew
      go_region_held3 (fun w' => w'.cell? ⟨w5.heap.size, 0, none⟩ = some b5 ∧ w'.cell? ⟨w5.heap.size, 1, none⟩ = some s5 ∧ w'.cell? ⟨w7.heap.size, 0, none⟩ = some b7 ∧ w'.cell? ⟨w7.heap.size, 1, none⟩ = some s7)
        (first | (with_reducible exact ⟨cellB hBel jv5 x0, cellB hBel jv5 x1, cellB hBel jv7 y0, cellB hBel jv7 y1⟩) | go_keep)
        (first
          | (go_at_call 63; have _t := tk0; clear tk0; refine (IMul_v (m5.keep hBel) (d7.keep hBel) (by omega) EN.out).mono ?_; rintro e v0 ⟨b0, s0, rfl, o0, g0⟩; replace hBel := hBel.trans (g0.mono hBel.size))
          | (go_at_call 63; have _t := tk1; clear tk1; refine (IMul_v (m7.keep hBel) (d5.keep hBel) (by omega) EM.out).mono ?_; rintro e v1 ⟨b1, s1, rfl, o1, g1⟩; replace o0 := o0.keep g1; replace hBel := hBel.trans (g1.mono hBel.size))
          | (go_at_call 68; have _t := tk2; clear tk2; refine (ICmp_v (o0.is zN) (o1.is zM) (by omega) EQ.out).mono ?_; rintro e v2 ⟨rfl, g2⟩; replace hBel := hBel.trans (g2.mono hBel.size)))
      rename_i hHeld
      clear hHeld
      go_wp2_with fail
      go_ret
      exact ⟨rfl, hb.trans (hBel.mono hb.size)⟩
    | true =>
      cases o4 with
      | false =>
        go_wp2_with fail
        refine (parts_v h).mono ?_
        rintro e w5 ⟨b5, s5, t5, n5, D5, rfl, m5, d5, z5, r5, g5⟩
        obtain ⟨q5a, q5b⟩ := m5.st
        have c5 := d5.cl.2
        have bo := bel1 w5 (.cells #[b5, s5] 24)
        have v5 := Bx2.new w5 b5 s5
        obtain ⟨w6, hw6⟩ : ∃ w6, w5.alloc (.cells #[b5, s5] 24) = w6 := ⟨_, rfl⟩
        rw [hw6] at v5 bo
        have b46 := g5.trans (bo.mono g5.size)
        replace m5 := m5.keep bo
        replace d5 := d5.keep bo
        replace h' := h'.keep b46
        replace i1 := i1.keep b46
        replace hb := hb.trans (b46.mono hb.size)
        clear x0 x1 x2 bo b46 g5 i0 h y0 y1 y2
        have y0 := i1.c0
        have y1 := i1.c1
        have y2 := i1.c2
        have j1' := i1.lt
        go_wp2_with fail
        refine (parts_v h').mono ?_
        rintro e w7 ⟨b7, s7, t7, n7, D7, rfl, m7, d7, z7, r7, g7⟩
        obtain ⟨q7a, q7b⟩ := m7.st
        have c7 := d7.cl.2
        have bo := bel1 w7 (.cells #[b7, s7] 24)
        have v7 := Bx2.new w7 b7 s7
        obtain ⟨w8, hw8⟩ : ∃ w8, w7.alloc (.cells #[b7, s7] 24) = w8 := ⟨_, rfl⟩
        rw [hw8] at v7 bo
        have b68 := g7.trans (bo.mono g7.size)
        replace m7 := m7.keep bo
        replace d7 := d7.keep bo
        replace m5 := m5.keep b68
        replace d5 := d5.keep b68
        replace v5 := v5.keep b68
        replace hb := hb.trans (b68.mono hb.size)
        clear bo b68 g7 i1 h' y0 y1 y2 hw6
        obtain ⟨N, eN⟩ : ∃ N : Int, n5 * (D7 : Int) = N := ⟨_, rfl⟩
        obtain ⟨M, eM⟩ : ∃ N : Int, n7 * (D5 : Int) = N := ⟨_, rfl⟩
        have zN : SzI N (K + K) := imul_sz m5.sz d7.sz eN (by omega)
        have zM : SzI M (K + K) := imul_sz m7.sz d5.sz eM (by omega)
        have eq : cmpI N M = q := by rw [← eN, ← eM, ← cmpR_mk z5 z7, r5, r7]; exact E.out
        have EN := Lib.hid eN
        have EM := Lib.hid eM
        have EQ := Lib.hid eq
        clear eN eM eq r5 r7 E
        have jv5 := v5.lt
        have jv7 := v7.lt
        have x0 := v5.c0
        have x1 := v5.c1
        have y0 := v7.c0
        have y1 := v7.c1
        have tk0 : True := trivial
        have tk1 : True := trivial
        have tk2 : True := trivial
        go_wp2_with fail
        try rw [hw8]
        clear hw8
        have hBel : Below w8.heap.size w8 w8.drew := (Below.refl _ _).drew
        go_region_held3 (fun w' => w'.cell? ⟨w5.heap.size, 0, none⟩ = some b5 ∧ w'.cell? ⟨w5.heap.size, 1, none⟩ = some s5 ∧ w'.cell? ⟨w7.heap.size, 0, none⟩ = some b7 ∧ w'.cell? ⟨w7.heap.size, 1, none⟩ = some s7)
          (first | (with_reducible exact ⟨cellB hBel jv5 x0, cellB hBel jv5 x1, cellB hBel jv7 y0, cellB hBel jv7 y1⟩) | go_keep)
          (first
            | (go_at_call 63; have _t := tk0; clear tk0; refine (IMul_v (m5.keep hBel) (d7.keep hBel) (by omega) EN.out).mono ?_; rintro e v0 ⟨b0, s0, rfl, o0, g0⟩; replace hBel := hBel.trans (g0.mono hBel.size))
            | (go_at_call 63; have _t := tk1; clear tk1; refine (IMul_v (m7.keep hBel) (d5.keep hBel) (by omega) EM.out).mono ?_; rintro e v1 ⟨b1, s1, rfl, o1, g1⟩; replace o0 := o0.keep g1; replace hBel := hBel.trans (g1.mono hBel.size))
            | (go_at_call 68; have _t := tk2; clear tk2; refine (ICmp_v (o0.is zN) (o1.is zM) (by omega) EQ.out).mono ?_; rintro e v2 ⟨rfl, g2⟩; replace hBel := hBel.trans (g2.mono hBel.size)))
        rename_i hHeld
        clear hHeld
        go_wp2_with fail
        go_ret
        exact ⟨rfl, hb.trans (hBel.mono hb.size)⟩
      | true =>
        obtain ⟨a1, a2, a3⟩ := (SM3.out rfl).cmp (SM4.out rfl)
        obtain ⟨P, eP⟩ : ∃ P, n3 * d4 = P := ⟨_, rfl⟩
        obtain ⟨Q, eQ⟩ : ∃ Q, n4 * d3 = Q := ⟨_, rfl⟩
        rw [eP] at a1
        rw [eQ] at a2
        rw [eP, eQ] at a3
        have f1 : wrap64 (n3 * d4) = P := by rw [eP]; exact IntWalk.wrap64_in _ ⟨by omega, by omega⟩
        have f2 : wrap64 (n4 * d3) = Q := by rw [eQ]; exact IntWalk.wrap64_in _ ⟨by omega, by omega⟩
        have HA := Lib.hid (a3.trans E.out)
        clear eP eQ a3
        go_wp2_with fail
        refine (cmp_l HA.out).mono ?_
        rintro e w5 ⟨rfl, g5⟩
        go_wp2_with fail
        go_ret
        exact ⟨rfl, hb.trans (g5.mono hb.size)⟩
  · have e2 : cmpI s1 s2 = q := by
      rw [← ES1.out, ← ES2.out, ← cmpR_sgn (by rw [ES1.out, ES2.out]; exact hs)]; exact E.out
    have E2 := Lib.hid e2
    clear e2
    go_wp2_with fail
    refine (cmp_i E2.out).mono ?_
    rintro e w5 ⟨rfl, g5⟩
    have hb := hbW.trans (hBel.mono hbW.size)
    go_wp2_with fail
    go_ret
    exact ⟨rfl, hb.trans (g5.mono hb.size)⟩

/- A region that draws its order, by an invariant: what holds when a set of its operations is done; each operation is shown once. -/

/-- operation i is done too -/
def upd (L : Nat → Bool) (i : Nat) : Nat → Bool := fun j => if j = i then true else L j
theorem upd_ne {L : Nat → Bool} {i j : Nat} (h : j ≠ i) : upd L i j = L j := if_neg h
theorem upd_eq {L : Nat → Bool} {i : Nat} : upd L i i = true := if_pos rfl
theorem upd_of {L : Nat → Bool} {i j : Nat} {b : Bool} (h : upd L i j = b) (hn : j ≠ i) : L j = b := (upd_ne hn).symm.trans h
/-- which operations each operation waits for -/
def depsOf (md : Region.Mode) (ops : Array Oper) : List (List Nat) := ops.toList.map fun o => (o.after.toList.filter (Region.binds md)).map (·.on)
def Steps (P : Program) (ops : Array Oper) (Q : Exit → Act → World → Prop) (I : (Nat → Bool) → Act → World → Prop) : Nat → List (List Nat) → Prop
  | _, [] => True
  | i, d :: ds => (∀ L a w, I L a w → L i = false → (∀ j ∈ d, L j = true) → wpOp P ops Q i (I (upd L i)) a w) ∧ Steps P ops Q I (i + 1) ds
theorem Steps.at_ {P : Program} {ops : Array Oper} {Q : Exit → Act → World → Prop} {I : (Nat → Bool) → Act → World → Prop} : ∀ (k : Nat) (D : List (List Nat)), Steps P ops Q I k D → ∀ i d, D[i]? = some d → ∀ L a w, I L a w → L (k + i) = false → (∀ j ∈ d, L j = true) → wpOp P ops Q (k + i) (I (upd L (k + i))) a w
  | _, [], _, _, _, h => by simp at h
  | k, d0 :: ds, hs, 0, d, h => by
    simp at h; subst h
    exact hs.1
  | k, d0 :: ds, hs, i + 1, d, h => by
    have h' := Steps.at_ (k + 1) ds hs.2 i d (by simpa using h)
    rw [show k + (i + 1) = k + 1 + i by omega]
    exact h'
theorem unlisted_lt {l : Array Bool} {i : Nat} (h : l.getD i true = false) : ((l.setIfInBounds i true).toList.filter (fun b => !b)).length < (l.toList.filter (fun b => !b)).length := by
  obtain ⟨l⟩ := l
  have hi : l[i]? = some false := by
    simp only [Array.getD_eq_getD_getElem?, List.getElem?_toArray] at h
    cases hl : l[i]? with
    | none => rw [hl] at h; simp at h
    | some b => rw [hl] at h; simp at h; rw [h]
  simp only [List.setIfInBounds_toArray]
  clear h
  induction l generalizing i with
  | nil => simp at hi
  | cons b l ih =>
    cases i with
    | zero => simp at hi; subst hi; simp
    | succ i =>
      have := ih (i := i) (by simpa using hi)
      cases b <;> simp_all
theorem deps_get {md : Region.Mode} {ops : Array Oper} {i : Nat} {o : Oper} (h : ops[i]? = some o) : (depsOf md ops)[i]? = some ((o.after.toList.filter (Region.binds md)).map (·.on)) := by
  simp [depsOf, h]
def downB : Nat → List (List Nat) → Bool
  | _, [] => true
  | i, d :: ds => d.all (· < i) && downB (i + 1) ds
theorem downB_at : ∀ (k : Nat) (D : List (List Nat)), downB k D = true → ∀ i d, D[i]? = some d → ∀ j ∈ d, j < k + i
  | _, [], _, _, _, h => by simp at h
  | k, d0 :: ds, hb, 0, d, h => by
    simp at h; subst h
    simp [downB] at hb
    exact hb.1
  | k, d0 :: ds, hb, i + 1, d, h => by
    simp [downB] at hb
    have := downB_at (k + 1) ds hb.2 i d (by simpa using h)
    intro j hj
    have := this j hj
    omega
theorem wpAny_inv {P : Program} {ops : Array Oper} {Q : Exit → Act → World → Prop} {md : Region.Mode} {D : List (List Nat)} (hD : depsOf md ops = D) (hdn : downB 0 D = true) {I : (Nat → Bool) → Act → World → Prop}
    (hdone : ∀ L a w, (∀ i, i < D.length → L i = true) → I L a w → Q .normal a w) (hs : Steps P ops Q I 0 D) :
    ∀ (fuel : Nat) (l : Array Bool) (a : Act) (w : World), l.size = ops.size → (l.toList.filter (fun b => !b)).length ≤ fuel → I (fun i => l.getD i false) a w → wpAny P md ops Q fuel l a w := by
  have hlen : D.length = ops.size := by rw [← hD]; simp [depsOf]
  have hrdy : ∀ (l : Array Bool), l.size = ops.size → Region.ready md ops l = [] → ∀ i, i < ops.size → l.getD i false = true := by
    intro l hl hr i
    induction i using Nat.strongRecOn with
    | _ i ih =>
      intro hi
      cases hb : l.getD i false with
      | true => rfl
      | false =>
        have ho : ops[i]? = some ops[i] := Array.getElem?_eq_getElem hi
        have hm : i ∈ Region.ready md ops l := by
          rw [mem_ready]
          refine ⟨?_, ops[i], ho, fun e he hbd => ?_⟩
          · rw [← hb]; simp [Array.getD, show i < l.size by omega]
          · have hd := deps_get (md := md) ho
            rw [hD] at hd
            have hj : e.on ∈ ((ops[i].after.toList.filter (Region.binds md)).map (·.on)) := List.mem_map.2 ⟨e, List.mem_filter.2 ⟨by simpa using he, hbd⟩, rfl⟩
            have hlt := downB_at 0 D hdn i _ hd _ hj
            exact ih e.on (by omega) (by omega)
        rw [hr] at hm
        simp at hm
  have hfin : ∀ (l : Array Bool) (a : Act) (w : World), l.size = ops.size → I (fun i => l.getD i false) a w → Region.ready md ops l = [] → Q .normal a w := by
    intro l a w hl hI hr
    exact hdone _ a w (fun i hi => hrdy l hl hr i (by omega)) hI
  intro fuel
  induction fuel with
  | zero =>
    intro l a w hl hc hI
    have hr : Region.ready md ops l = [] := by
      refine List.eq_nil_iff_forall_not_mem.2 fun i hi => ?_
      have h := unlisted_lt (mem_ready.1 hi).1
      omega
    exact ⟨hr, hfin l a w hl hI hr⟩
  | succ fuel ih =>
    intro l a w hl hc hI
    refine ⟨hfin l a w hl hI, fun i hi => ?_⟩
    obtain ⟨h0, o, ho, hdeps⟩ := mem_ready.1 hi
    have hlt := unlisted_lt h0
    have hil : i < l.size := by
      rcases Nat.lt_or_ge i l.size with h | h
      · exact h
      · simp [Array.getD, show ¬ i < l.size by omega] at h0
    have hd := deps_get (md := md) ho
    rw [hD] at hd
    have hw := Steps.at_ 0 D hs i _ hd (fun i => l.getD i false) a w hI (by
      rw [Nat.zero_add]; simp only [Array.getD, dif_pos hil] at h0 ⊢; exact h0) (by
      intro j hj
      obtain ⟨e, he, rfl⟩ := List.mem_map.1 hj
      obtain ⟨he1, he2⟩ := List.mem_filter.1 he
      exact hdeps e (by simpa using he1) he2)
    rw [Nat.zero_add] at hw
    refine wpOp_mono (fun a' w' hI' => ih _ a' w' (by simpa using hl) (by omega) ?_) hw
    have e : upd (fun i => l.getD i false) i = fun j => (l.setIfInBounds i true).getD j false := by
      funext j
      unfold upd
      by_cases hj : j = i
      · subst hj; rw [if_pos rfl]; simp [Array.getD, hil]
      · rw [if_neg hj, getD_set_ne false (fun h => hj h.symm)]
    rw [← e]; exact hI'
theorem put_get (a : Act) (d : Nat) : a.put (some d) (a.tmps.getD d undef) = a := by
  obtain ⟨t, df⟩ := a
  simp only [Act.put]
  congr 1
  apply Array.ext
  · simp
  · intro i h1 h2
    by_cases hi : d = i
    · subst hi; simp [Array.getD, h2]
    · rw [Array.getElem_setIfInBounds_ne (h := hi)]
theorem wp_region_inv {P : Program} {id : Nat} {ops : Array Oper} {Q : Exit → Act → World → Prop} {a : Act} {w : World} (hm : P.follows .mixedOrders = true) (D : List (List Nat)) (hD : depsOf .any ops = D) (hdn : downB 0 D = true) (I : Act → (Nat → Bool) → Act → World → Prop)
    (h0 : ∀ fa, I fa (fun _ => false) fa w.drew) (hdone : ∀ L a' w, (∀ i, i < D.length → L i = true) → I a L a' w → Q .normal a' w) (hs : Steps P ops Q (I a) 0 D) :
    (Code.region id ops true).wp P Q a w := by
  refine wp_region_any hm ?_
  refine wpAny_inv hD hdn hdone hs _ _ _ _ (by simp) ?_ ?_
  · exact Nat.le_trans (List.length_filter_le _ _) (by simp)
  · have e : (fun i => (Array.replicate ops.size false).getD i false) = fun _ => false := by
      funext i
      simp [Array.getD]
    rw [e]; exact h0 a

end Go.Proofs.Ytaeidephegnkdaa
