/- How the arguments of the statements are opened: slices of limbs, integers; what their sizes are. -/
import Derived.Test.YtaeidephegnkdaaRows
import Derived.Test.YtaeidephegnkdaaMB
import Derived.ProofKit
import Derived.OpenShut
import Derived.ShutString
import Derived.ChangeOld
import Derived.Below
import Derived.SizedLaws
import Derived.JoinedCond
import Derived.Lib.SmallJoins
namespace Go.Proofs.Ytaeidephegnkdaa
open Go.ChangeShapes Go.WideShapes Go.ChangeAt Go.RowKit Go.Joins Gm

theorem own : ownKnob Try.prog.godebug = none := by kernel_rfl
theorem laidOut : laidOutB Try.prog = true := by kernel_rfl
theorem cells_u32 : Try.prog.cellsOf 40 = 1 := by kernel_rfl
theorem bytes_u32 : Try.prog.bytesOf 40 = 4 := by kernel_rfl

section
variable {H : Type} {enc : TypeId × Value → H} {W : World}

/-- a slice of limbs that came in -/
theorem open_limbs {n : Nat} {v : Value} {y : DataW H × List MemPlace} (h : DataW.trod enc Try.prog W 0 (fun _ => true) true n 22 [v] = some y) :
    ∃ A c xs, v = .slice A xs.length c ∧ Lim W A c xs ∧ ((y.1 = .nil ∧ c = 0) ∨ ∃ elems spare, y.1 = .slice elems spare ∧ elems.length + spare.length = c) := by
  rcases open_ints Try.underlying22 Try.underlying40 cells_u32 h with ⟨hcs, hx⟩ | ⟨a, len, cap, zs, hcs, _, hl, hm, hz, hx, hcell, hwz⟩
  · simp at hcs
    subst hcs
    exact ⟨none, 0, [], rfl, Lim.nil _ _, .inl ⟨by rw [hx], rfl⟩⟩
  · simp at hcs
    subst hcs
    have hz' : zs.length = cap := by simpa using hz
    have hlen : ((zs.take len).map Int.toNat).length = len := by simp; omega
    refine ⟨some a, cap, (zs.take len).map Int.toNat, by rw [hlen], ?_, .inr ⟨_, _, by rw [hx], ?_⟩⟩
    · refine ⟨?_, by rw [hlen]; exact hl, by simpa [maxLen] using hm, ?_⟩
      · intro x hx'
        obtain ⟨z, hzm, rfl⟩ := List.mem_map.1 hx'
        have hb := bounds_u32 (hwz z (List.mem_of_mem_take hzm))
        have := Ba_eq
        omega
      · intro h0
        rw [hlen] at h0
        obtain ⟨b, off, spot⟩ := a
        have h1 := hcell 0 (by omega)
        have hspot : spot = none := by simpa [Addr.add] using World.cell?_spot h1
        subst hspot
        refine ⟨b, off, rfl, World.block_lt_of_cell? W _ (by simpa [Addr.add] using h1), fun k hk => ?_⟩
        rw [hlen] at hk
        have h2 := hcell k (by omega)
        have he : (Addr.mk b off none).add k = ⟨b, off + k, none⟩ := by
          unfold Addr.add
          split
          · next h0 => rw [h0]; rfl
          · rfl
        rw [he] at h2
        rw [h2]
        have hk2 : k < zs.length := by omega
        have hb := bounds_u32 (hwz zs[k] (List.getElem_mem hk2))
        congr 2
        rw [List.getD_eq_getElem?_getD, List.getElem?_eq_getElem hk2, List.getElem?_map, List.getElem?_take_of_lt hk, List.getElem?_eq_getElem hk2]
        simp
        omega
    · simp only [lits, List.length_map, List.length_take, List.length_drop]; omega

theorem sized_mem {ts : List TypeId} {ds : List (DataW H)} (h : (DataW.weightsEach Try.prog ts ds).all (· ≤ reachBytes) = true) {j : Nat} {t : TypeId} {d : DataW H} (ht : ts[j]? = some t) (hd : ds[j]? = some d) : ∀ n ∈ d.weights Try.prog t, n ≤ reachBytes := by
  intro n hn
  have := List.all_eq_true.1 h _ (DataW.weights_mem_each ht hd n hn)
  simpa using this

/-- what a slice of limbs weighs -/
theorem limbs_weigh {d : DataW H} {c : Nat} (h : (d = .nil ∧ c = 0) ∨ ∃ elems spare, d = .slice elems spare ∧ elems.length + spare.length = c) (hw : ∀ n ∈ d.weights Try.prog 22, n ≤ reachBytes) : c ≤ 35184372087808 := by
  rcases h with ⟨_, rfl⟩ | ⟨elems, spare, rfl, rfl⟩
  · omega
  · have := hw ((elems.length + spare.length) * Try.prog.bytesOf 40) (by simp [DataW.weights, Try.underlying22])
    rw [bytes_u32] at this
    simp only [reachBytes] at this
    omega
theorem bulk_length (l : List (DataW H)) : l.length ≤ Rows.uptoBulkAll l := by
  induction l with
  | nil => simp [Rows.uptoBulkAll]
  | cons x r ih =>
    have : 1 ≤ Rows.uptoBulk x := by
      cases x with
      | lit l => cases l <;> simp [Rows.uptoBulk]
      | nil => simp [Rows.uptoBulk]
      | ptr d => simp [Rows.uptoBulk]
      | slice elems spare => simp [Rows.uptoBulk]
      | agg parts => simp [Rows.uptoBulk]
      | iface t d => simp [Rows.uptoBulk]
      | map entries => simp [Rows.uptoBulk]
      | held h => simp [Rows.uptoBulk]
    simp only [Rows.uptoBulkAll, List.length_cons]; omega
theorem limbs_bulk {d : DataW H} {c : Nat} (h : (d = .nil ∧ c = 0) ∨ ∃ elems spare, d = .slice elems spare ∧ elems.length + spare.length = c) : c ≤ Rows.uptoBulk d := by
  rcases h with ⟨_, rfl⟩ | ⟨elems, spare, rfl, rfl⟩
  · omega
  · have h1 := bulk_length elems
    have h2 := bulk_length spare
    simp only [Rows.uptoBulk]
    omega

set_option maxRecDepth 100000 in
/-- an integer that came in -/
theorem open_int_ {base : Nat} {v : Value} {d : DataW H} {p : List MemPlace} (hv : Value.okWide Try.prog W .any base 24 v) (h : DataW.Trod enc Try.prog W 0 (fun _ => true) true 24 v d p) :
    ∃ neg A c xs, v = .agg #[.bool neg, .slice A xs.length c] ∧ Lim W A c xs ∧ ((∀ n ∈ d.weights Try.prog 24, n ≤ reachBytes) → c ≤ 35184372087808) ∧ c ≤ Rows.uptoBulk d := by
  obtain ⟨v0, v1, y0, y1, n, rfl, rfl, rfl, h0, h1⟩ := open_agg2 Try.underlying24 (by kernel_rfl) (by kernel_rfl) hv h
  obtain ⟨neg, e0, _⟩ := DataW.trod_bool Try.underlying4 h0
  simp at e0
  subst e0
  obtain ⟨A, c, xs, rfl, hl, hd⟩ := open_limbs h1
  refine ⟨neg, A, c, xs, rfl, hl, fun hw => limbs_weigh hd (fun n hn => hw n ?_), ?_⟩
  · simp only [DataW.weights, Try.underlying24]
    simp only [DataW.weightsEach, List.map_cons, List.map_nil]
    simp [hn]
  · have := limbs_bulk hd
    simp only [Rows.uptoBulk, Rows.uptoBulkAll]
    omega
set_option maxRecDepth 100000 in
/-- a natural number that came in -/
theorem open_nat_ {base : Nat} {v : Value} {d : DataW H} {p : List MemPlace} (hv : Value.okWide Try.prog W .any base 22 v) (h : DataW.Trod enc Try.prog W 0 (fun _ => true) true 22 v d p) :
    ∃ A c xs, v = .slice A xs.length c ∧ Lim W A c xs ∧ ((∀ n ∈ d.weights Try.prog 22, n ≤ reachBytes) → c ≤ 35184372087808) ∧ c ≤ Rows.uptoBulk d := by
  obtain ⟨a0, len, cap, rfl⟩ := okWide_slice Try.underlying22 hv
  obtain ⟨fuel, hf⟩ := h
  obtain ⟨A, c, xs, e, hl, hd⟩ := open_limbs (v := .slice a0 len cap) (by simpa [Value.cells] using hf)
  exact ⟨A, c, xs, e, hl, fun hw => limbs_weigh hd hw, limbs_bulk hd⟩
end
end Go.Proofs.Ytaeidephegnkdaa
