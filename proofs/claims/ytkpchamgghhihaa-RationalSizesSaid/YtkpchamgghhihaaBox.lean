/- Variables of struct type in memory: what allocs and stores leave as it was. -/
import Derived.Test.YtkpchamgghhihaaIntF
namespace Go.Proofs.Ytkpchamgghhihaa
open Go.RowKit Gm

/-- a store into a cell that holds no limb does not touch limbs -/
theorem Lim.store {w : World} {A : Option Addr} {c : Nat} {xs : List Nat} {p : Addr} {u v : Value} (h : Lim w A c xs) (hp : w.cell? p = some v) (hv : ∀ z, v ≠ .int .u32 z) : Lim (w.setCell p u) A c xs :=
  ⟨h.lb, h.cap, h.max, fun h0 => by
    obtain ⟨b, off, e, hb, hc⟩ := h.cells h0
    refine ⟨b, off, e, by simpa using hb, fun k hk => ?_⟩
    rw [World.cell?_setCell_other]
    · exact hc k hk
    · intro he
      rw [he, hc k hk] at hp
      injection hp with hp
      exact hv _ hp.symm⟩
theorem Own.store {lo : Nat} {w : World} {A : Option Addr} {c : Nat} {xs : List Nat} {p : Addr} {u v : Value} (h : Own lo w A c xs) (hp : w.cell? p = some v) (hv : ∀ z, v ≠ .int .u32 z) : Own lo (w.setCell p u) A c xs :=
  ⟨h.lb, h.cap, h.max, fun h0 => by
    obtain ⟨b, off, e, hlo, hb, hc⟩ := h.cells h0
    refine ⟨b, off, e, hlo, by simpa using hb, fun k hk => ⟨?_, by rw [World.frozen?_setCell]; exact (hc k hk).2⟩⟩
    rw [World.cell?_setCell_other]
    · exact (hc k hk).1
    · intro he
      rw [he, (hc k hk).1] at hp
      injection hp with hp
      exact hv _ hp.symm⟩
theorem IntAt.new (w : World) (b : Bool) (s : Value) : IntAt (w.alloc (.cells #[.bool b, s] 38)) w.heap.size b s := by
  refine ⟨?_, ?_, ?_, ?_⟩ <;> go_simp
theorem IntAt.keep {w w' : World} {N : Nat} {b : Bool} {s : Value} (h : IntAt w N b s) (hb : Below w.heap.size w w') : IntAt w' N b s := h.below hb h.lt
theorem IntAt.alloc {w : World} {N : Nat} {b : Bool} {s : Value} (h : IntAt w N b s) (o : Obj) : IntAt (w.alloc o) N b s := h.keep (bel1 w o)
/-- storing an integer into its variable -/
theorem Lim.put {w : World} {A : Option Addr} {c N : Nat} {xs : List Nat} {b : Bool} {B : Option Addr} {m n : Nat} (h : Lim w A c xs) (hN : IntAt w N b (.slice B m n)) (b' : Bool) (v : Value) : Lim ((w.setCell ⟨N, 0, none⟩ (.bool b')).setCell ⟨N, 1, none⟩ v) A c xs := by
  have h1 : Lim (w.setCell ⟨N, 0, none⟩ (.bool b')) A c xs := h.store hN.c0 (by intro z e; cases e)
  exact h1.store (v := .slice B m n) ((by rw [World.cell?_setCell_other (b := (⟨N, 1, none⟩ : Addr)) (h := by simp)]; exact hN.c1)) (by intro z e; cases e)
theorem Own.put {lo : Nat} {w : World} {A : Option Addr} {c N : Nat} {xs : List Nat} {b : Bool} {B : Option Addr} {m n : Nat} (h : Own lo w A c xs) (hN : IntAt w N b (.slice B m n)) (b' : Bool) (v : Value) : Own lo ((w.setCell ⟨N, 0, none⟩ (.bool b')).setCell ⟨N, 1, none⟩ v) A c xs := by
  have h1 : Own lo (w.setCell ⟨N, 0, none⟩ (.bool b')) A c xs := h.store hN.c0 (by intro z e; cases e)
  exact h1.store (v := .slice B m n) ((by rw [World.cell?_setCell_other (b := (⟨N, 1, none⟩ : Addr)) (h := by simp)]; exact hN.c1)) (by intro z e; cases e)
theorem Below.al1 {W w : World} (h : Below W.heap.size W w) (o : Obj) : Below W.heap.size W (w.alloc o) := h.alloc h.size _
theorem Below.st2 {W w : World} {N : Nat} (h : Below W.heap.size W w) (hN : W.heap.size ≤ N) (u v : Value) : Below W.heap.size W ((w.setCell ⟨N, 0, none⟩ u).setCell ⟨N, 1, none⟩ v) := below_put2 h hN u v
end Go.Proofs.Ytkpchamgghhihaa
