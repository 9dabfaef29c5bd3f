/- Results of package integer looked at as memory alone; a row of integers whose limbs are wiped. -/
import Derived.Test.YtkpchamgghhihaaKeep
import Derived.Test.YtkpchamgghhihaaPair
namespace Go.Proofs.Ytkpchamgghhihaa
open Go.RowKit Gm

theorem Row.store {w : World} {g N i : Nat} {zs : List Nat} {u v : Value} (h : Row w g zs) (hp : w.cell? ⟨N, i, none⟩ = some v) (hv : ∀ z, v ≠ .int .u32 z) : Row (w.setCell ⟨N, i, none⟩ u) g zs := by
  by_cases e : g = N
  · subst e
    rw [cell_of_row w g i _ _ (0, 0) h] at hp
    exfalso
    simp only [cellsOf] at hp
    rw [List.getElem?_toArray, List.getElem?_map] at hp
    cases hz : zs[i]? with
    | none => rw [hz] at hp; simp at hp
    | some z => rw [hz] at hp; simp at hp; exact hv _ hp.symm
  · exact h.far e u
theorem Spared.keep {w w' : World} {g : Nat} {xs : List Nat} (h : Spared w g xs) (hb : Below w.heap.size w w') : Spared w' g xs := h.below hb h.lt
theorem Spared.store_s {w : World} {g N i : Nat} {xs : List Nat} {u : Value} (h : Spared w g xs) (hp : w.cell? ⟨N, i, none⟩ = some (.slice none 0 0)) : Spared (w.setCell ⟨N, i, none⟩ u) g xs := by
  obtain ⟨zs, h1, h2⟩ := h
  exact ⟨zs, h1.store hp (by intro z e; cases e), h2⟩
theorem Spared.store_b {w : World} {g N i : Nat} {xs : List Nat} {u : Value} (h : Spared w g xs) (hp : w.cell? ⟨N, i, none⟩ = some (.bool false)) : Spared (w.setCell ⟨N, i, none⟩ u) g xs := by
  obtain ⟨zs, h1, h2⟩ := h
  exact ⟨zs, h1.store hp (by intro z e; cases e), h2⟩

/-- an integer whose limbs may be written -/
def RetIW (w : World) (e : Ending) (w' : World) : Prop := ∃ b A n c, e = .returned (.agg #[.bool b, .slice A n c]) ∧ Wr w.heap.size w' A n ∧ Below w.heap.size w w'
theorem RetInt.iw {w w' : World} {n : Int} {e : Ending} (h : RetInt w n e w') : RetIW w e w' := by
  obtain ⟨A, c, rfl, h1, h2⟩ := h
  exact ⟨_, A, _, c, rfl, h1.wr, h2⟩
def RetIW2 (w : World) (e : Ending) (w' : World) : Prop := ∃ b A n c b' A' n' c' o, e = .returned (.tuple #[.agg #[.bool b, .slice A n c], .agg #[.bool b', .slice A' n' c'], .bool o]) ∧ Wr w.heap.size w' A n ∧ Wr w.heap.size w' A' n' ∧ Below w.heap.size w w'
section
variable (p q : Bool) (A B : Option Addr) (xs ys : List Nat) (c d : Nat) (w : World)
theorem INorm_any (ha : Lim w A c xs) (hs : xs.length ≤ 35184372087808) : Calls Try.prog 34 #[.agg #[.bool p, .slice A xs.length c]] w (RetIW w) :=
  (INorm_c p A xs c w ha (by omega)).mono fun _ _ h => h.iw
theorem INeg_any (ha : Lim w A c xs) (hs : xs.length ≤ 35184372087808) : Calls Try.prog 35 #[.agg #[.bool p, .slice A xs.length c]] w (RetIW w) :=
  (INeg_n p A xs c w _ _ 35184372087808 ha hs rfl rfl (by omega)).mono fun _ _ h => h.iw
theorem IAbs_any (ha : Lim w A c xs) (hs : xs.length ≤ 35184372087808) : Calls Try.prog 36 #[.agg #[.bool p, .slice A xs.length c]] w (RetIW w) :=
  (IAbs_n p A xs c w _ _ 35184372087808 ha hs rfl rfl (by omega)).mono fun _ _ h => h.iw
theorem IAdd_any (ha : Lim w A c xs) (hb : Lim w B d ys) (hs : xs.length ≤ 35184372087808) (ht : ys.length ≤ 35184372087808) : Calls Try.prog 37 #[.agg #[.bool p, .slice A xs.length c], .agg #[.bool q, .slice B ys.length d]] w (RetIW w) :=
  (IAdd_n p q A B xs ys c d w _ _ _ 35184372087808 35184372087808 ha hb hs ht rfl rfl rfl (by omega) (by omega)).mono fun _ _ h => h.iw
theorem ISub_any (ha : Lim w A c xs) (hb : Lim w B d ys) (hs : xs.length ≤ 35184372087808) (ht : ys.length ≤ 35184372087808) : Calls Try.prog 38 #[.agg #[.bool p, .slice A xs.length c], .agg #[.bool q, .slice B ys.length d]] w (RetIW w) :=
  (ISub_n p q A B xs ys c d w _ _ _ 35184372087808 35184372087808 ha hb hs ht rfl rfl rfl (by omega) (by omega)).mono fun _ _ h => h.iw
theorem IMul_any (ha : Lim w A c xs) (hb : Lim w B d ys) (hs : xs.length ≤ 35184372087808) (ht : ys.length ≤ 35184372087808) : Calls Try.prog 25 #[.agg #[.bool p, .slice A xs.length c], .agg #[.bool q, .slice B ys.length d]] w (RetIW w) :=
  (IMul_n p q A B xs ys c d w _ _ _ 35184372087808 35184372087808 ha hb hs ht rfl rfl rfl (by omega)).mono fun _ _ h => h.iw
theorem IGCD_any (ha : Lim w A c xs) (hb : Lim w B d ys) (hs : xs.length ≤ 35184372087808) (ht : ys.length ≤ 35184372087808) : Calls Try.prog 27 #[.agg #[.bool p, .slice A xs.length c], .agg #[.bool q, .slice B ys.length d]] w (RetIW w) :=
  (IGCD_c p q A B xs ys c d w ha hb (by omega) (by omega)).mono fun _ _ h => h.iw
theorem IDivMod_any (ha : Lim w A c xs) (hb : Lim w B d ys) (hs : xs.length ≤ 35184372087808) (ht : ys.length ≤ 35184372087808) : Calls Try.prog 26 #[.agg #[.bool p, .slice A xs.length c], .agg #[.bool q, .slice B ys.length d]] w (RetIW2 w) := by
  by_cases h0 : iv q ys = 0
  · refine (IDivMod0_n p q A B xs ys c d w _ ha hb rfl h0).mono ?_
    rintro e w' ⟨rfl, b⟩
    exact ⟨_, _, _, _, _, _, _, _, _, rfl, Wr.nil _ _ _, Wr.nil _ _ _, b⟩
  · refine (IDivMod_n p q A B xs ys c d w _ _ _ _ 35184372087808 35184372087808 ha hb hs ht rfl rfl h0 rfl rfl (by omega) (by omega)).mono ?_
    rintro e w' ⟨A1, c1, A2, c2, rfl, r1, r2, b⟩
    exact ⟨_, _, _, _, _, _, _, _, _, rfl, r1.wr, r2.wr, b⟩
end
theorem boxes2i (w : World) (p q : Bool) (u v : Value) :
    ∃ W, (w.alloc (.cells #[.bool p, u] 38)).alloc (.cells #[.bool q, v] 38) = W ∧ Below w.heap.size w W ∧ IntAt W w.heap.size p u ∧ IntAt W (w.heap.size + 1) q v := by
  refine ⟨_, rfl, ((Below.refl _ _).alloc (Nat.le_refl _) _).alloc (by simp) _, ?_, ?_⟩
  · refine ⟨?_, ?_, ?_, ?_⟩ <;> go_simp
  · refine ⟨?_, ?_, ?_, ?_⟩ <;> go_simp

/-- row g holds integers from place k on, whose limbs may be written -/
def OutsI (lo g len : Nat) (w : World) (k : Nat) : Prop :=
  ∀ i, k ≤ i → i < len → ∃ b A n c, w.cell? ⟨g, 2 * i, none⟩ = some (.bool b) ∧ w.cell? ⟨g, 2 * i + 1, none⟩ = some (.slice A n c) ∧ Wr lo w A n ∧ (0 < n → ∃ ad, A = some ad ∧ ad.block < g)
theorem OutsI.wiped {lo g len k : Nat} {w w' : World} (h : OutsI lo g len w k) (hw : Wiped lo g w w') : OutsI lo g len w' (k + 1) := by
  intro i h1 h2
  obtain ⟨b, A, n, c, hc0, hc, hr, ha⟩ := h i (by omega) h2
  refine ⟨b, A, n, c, ?_, ?_, hw.wr hr, ha⟩
  · rw [← hc0]
    unfold World.cell?
    rw [hw.block g (.inr (Nat.le_refl _))]
  · rw [← hc]
    unfold World.cell?
    rw [hw.block g (.inr (Nat.le_refl _))]
theorem OutsI.alloc {lo g len k : Nat} {w : World} (h : OutsI lo g len w k) (hg : g < w.heap.size) (o : Obj) : OutsI lo g len (w.alloc o) k := by
  intro i h1 h2
  obtain ⟨b, A, n, c, hc0, hc, hr, ha⟩ := h i h1 h2
  exact ⟨b, A, n, c, cellB (bel1 w o) hg hc0, cellB (bel1 w o) hg hc, hr.below (bel1 w o), ha⟩
/-- a literal of integers -/
theorem outsI_lit (w : World) (lo : Nat) (L : List (Bool × Option Addr × Nat × Nat)) (ty : TypeId) (h : ∀ e ∈ L, Wr lo w e.2.1 e.2.2.1) :
    OutsI lo w.heap.size L.length (w.alloc (.cells (L.flatMap fun e => [Value.bool e.1, Value.slice e.2.1 e.2.2.1 e.2.2.2]).toArray ty)) 0 := by
  intro i _ hi
  have hm := List.getElem_mem hi
  have hfl : ∀ (L : List (Bool × Option Addr × Nat × Nat)) (i : Nat) (hi : i < L.length), (L.flatMap fun e => [Value.bool e.1, Value.slice e.2.1 e.2.2.1 e.2.2.2])[2 * i]? = some (.bool L[i].1) ∧ (L.flatMap fun e => [Value.bool e.1, Value.slice e.2.1 e.2.2.1 e.2.2.2])[2 * i + 1]? = some (.slice L[i].2.1 L[i].2.2.1 L[i].2.2.2) := by
    intro L
    induction L with
    | nil => intro i hi; simp at hi
    | cons e L ih =>
      intro i hi
      cases i with
      | zero => simp
      | succ i =>
        have h1 := ih i (by simpa using hi)
        have e1 : 2 * (i + 1) = 2 * i + 1 + 1 := by omega
        rw [e1]
        simpa using h1
  obtain ⟨h1, h2⟩ := hfl L i hi
  refine ⟨L[i].1, L[i].2.1, L[i].2.2.1, L[i].2.2.2, ?_, ?_, (h _ hm).below (bel1 _ _), fun h0 => ?_⟩
  · rw [cell_of_row _ _ (2 * i) _ _ _ (heap_alloc_new w _)]
    simpa using h1
  · rw [cell_of_row _ _ (2 * i + 1) _ _ _ (heap_alloc_new w _)]
    simpa using h2
  · obtain ⟨b, off, e, _, hb, _⟩ := (h _ hm).2 h0
    exact ⟨_, e, hb⟩
end Go.Proofs.Ytkpchamgghhihaa
