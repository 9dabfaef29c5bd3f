/- Small laws for drawn regions that make and fill two variables of struct type. -/
import Derived.Test.YtkpchamgghhihaaBox
namespace Go.Proofs.Ytkpchamgghhihaa
open Go.RowKit Gm

theorem IntAt.new2 (w : World) (o : Obj) (b : Bool) (s : Value) : IntAt ((w.alloc o).alloc (.cells #[.bool b, s] 38)) (w.heap.size + 1) b s := by
  have h := IntAt.new (w.alloc o) b s
  simpa using h
theorem bel_call {W w w' : World} (h : Below W.heap.size W w) (b : Below w.heap.size w w') : Below W.heap.size W w' := h.trans (b.mono h.size)
theorem Lim.empty (w : World) (A : Option Addr) {c : Nat} (h : c ≤ 9223372036854775807) : Lim w A c [] := ⟨Lb_nil, Nat.zero_le _, h, fun h => absurd h (by simp)⟩
theorem Lim.store_s {w : World} {A : Option Addr} {c : Nat} {xs : List Nat} {p : Addr} {u : Value} (h : Lim w A c xs) (hp : w.cell? p = some (.slice none 0 0)) : Lim (w.setCell p u) A c xs := h.store hp (by intro z e; cases e)
theorem Lim.store_b {w : World} {A : Option Addr} {c : Nat} {xs : List Nat} {p : Addr} {u : Value} (h : Lim w A c xs) (hp : w.cell? p = some (.bool false)) : Lim (w.setCell p u) A c xs := h.store hp (by intro z e; cases e)
theorem Own.store_s {lo : Nat} {w : World} {A : Option Addr} {c : Nat} {xs : List Nat} {p : Addr} {u : Value} (h : Own lo w A c xs) (hp : w.cell? p = some (.slice none 0 0)) : Own lo (w.setCell p u) A c xs := h.store hp (by intro z e; cases e)
theorem Own.store_b {lo : Nat} {w : World} {A : Option Addr} {c : Nat} {xs : List Nat} {p : Addr} {u : Value} (h : Own lo w A c xs) (hp : w.cell? p = some (.bool false)) : Own lo (w.setCell p u) A c xs := h.store hp (by intro z e; cases e)
/-- a division without remainder, or by 0 -/
def RetDR (w : World) (o : Bool) (e : Ending) (w' : World) : Prop := ∃ bq Aq nq cq Ar cr, e = .returned (.tuple #[.agg #[.bool bq, .slice Aq nq cq], .agg #[.bool false, .slice Ar 0 cr], .bool o]) ∧ cr ≤ 9223372036854775807 ∧ Below w.heap.size w w'
theorem IDivMod_rem0 (p q : Bool) (A B : Option Addr) (xs ys : List Nat) (c d : Nat) (w : World) (m n : Int) (o : Bool) (K L : Nat) (ha : Lim w A c xs) (hb : Lim w B d ys) (hs : xs.length ≤ K) (ht : ys.length ≤ L) (hm : iv p xs = m) (hn : iv q ys = n) (hr : n ≠ 0 → m % n = 0) (ho : decide (n ≠ 0) = o) (hK : K < 70368744177664) (hL : L ≤ 70368744177664) :
    Calls Try.prog 26 #[.agg #[.bool p, .slice A xs.length c], .agg #[.bool q, .slice B ys.length d]] w (RetDR w o) := by
  subst ho
  by_cases h0 : n = 0
  · refine (IDivMod0_n p q A B xs ys c d w n ha hb hn h0).mono ?_
    rintro e w' ⟨rfl, b⟩
    exact ⟨false, none, 0, 0, none, 0, by rw [decide_eq_false (by simpa using h0)], by omega, b⟩
  · refine (IDivMod_n p q A B xs ys c d w m n (m / n) 0 K L ha hb hs ht hm hn h0 rfl (hr h0) hK hL).mono ?_
    rintro e w' ⟨A1, c1, A2, c2, rfl, r1, r2, b⟩
    exact ⟨decide (m / n < 0), A1, (limbs (m / n).natAbs).length, c1, A2, c2, by rw [decide_eq_true h0]; simp [limbs_zero], r2.max, b⟩
end Go.Proofs.Ytkpchamgghhihaa
