/- How rational numbers that came in are opened. -/
import Derived.Test.YtaeidephegnkdaaOpen
namespace Go.Proofs.Ytaeidephegnkdaa
open Go.ChangeShapes Go.WideShapes Go.ChangeAt Go.RowKit Go.Joins Gm

section
variable {H : Type} {enc : TypeId × Value → H} {W : World}
theorem cells_rat : Try.prog.cellsOf 26 = 3 := by kernel_rfl
theorem cells_int : Try.prog.cellsOf 24 = 2 := by kernel_rfl
theorem cells_sl : Try.prog.cellsOf 22 = 1 := by kernel_rfl
theorem cells_bo : Try.prog.cellsOf 4 = 1 := by kernel_rfl
set_option maxRecDepth 100000 in
/-- a rational number that came in -/
theorem open_rat_ {base : Nat} {v : Value} {d : DataW H} {p : List MemPlace} (hv : Value.okWide Try.prog W .any base 26 v) (h : DataW.Trod enc Try.prog W 0 (fun _ => true) true 26 v d p) :
    ∃ neg A c xs B e ys, v = .agg #[.bool neg, .slice A xs.length c, .slice B ys.length e] ∧ Lim W A c xs ∧ Lim W B e ys ∧ ((∀ n ∈ d.weights Try.prog 26, n ≤ reachBytes) → c ≤ 35184372087808 ∧ e ≤ 35184372087808) ∧ c ≤ Rows.uptoBulk d ∧ e ≤ Rows.uptoBulk d := by
  obtain ⟨cs, rfl, hsz⟩ := okWide_struct Try.underlying26 hv
  obtain ⟨c0, c1, c2, rfl⟩ := array3 (hsz.trans cells_rat)
  obtain ⟨fuel, hf⟩ := h
  obtain ⟨y0, y1, n, hx, _, h0, h1⟩ := trod_struct2 Try.underlying26 hf
  simp only [Prod.mk.injEq] at hx
  obtain ⟨rfl, rfl⟩ := hx
  have h0' : DataW.trod enc Try.prog W 0 (fun _ => true) true n 24 [c0, c1] = some y0 := by simpa [Value.cells, cells_int] using h0
  have h1' : DataW.trod enc Try.prog W 0 (fun _ => true) true n 22 [c2] = some y1 := by simpa [Value.cells, cells_sl] using h1
  obtain ⟨z0, z1, m, hy, _, k0, k1⟩ := trod_struct2 Try.underlying24 h0'
  have k0' : DataW.trod enc Try.prog W 0 (fun _ => true) true m 4 [c0] = some z0 := by simpa [cells_bo] using k0
  have k1' : DataW.trod enc Try.prog W 0 (fun _ => true) true m 22 [c1] = some z1 := by simpa [cells_sl] using k1
  obtain ⟨neg, e0, _⟩ := DataW.trod_bool Try.underlying4 k0'
  simp at e0
  subst e0
  subst hy
  obtain ⟨A, c, xs, rfl, hl, hd⟩ := open_limbs k1'
  obtain ⟨B, e, ys, rfl, hl2, hd2⟩ := open_limbs h1'
  refine ⟨neg, A, c, xs, B, e, ys, rfl, hl, hl2, fun hw => ⟨limbs_weigh hd (fun n hn => hw n ?_), limbs_weigh hd2 (fun n hn => hw n ?_)⟩, ?_, ?_⟩
  · simp only [DataW.weights, Try.underlying26]
    simp only [DataW.weightsEach, List.map_cons, List.map_nil]
    simp [DataW.weights, Try.underlying24, DataW.weightsEach, hn]
  · simp only [DataW.weights, Try.underlying26]
    simp only [DataW.weightsEach, List.map_cons, List.map_nil]
    simp [hn]
  · have := limbs_bulk hd
    simp only [Rows.uptoBulk, Rows.uptoBulkAll]
    omega
  · have := limbs_bulk hd2
    simp only [Rows.uptoBulk, Rows.uptoBulkAll]
    omega
end
end Go.Proofs.Ytaeidephegnkdaa
