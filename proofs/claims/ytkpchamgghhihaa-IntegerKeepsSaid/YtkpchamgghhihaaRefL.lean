/- Contracts of the reference of layer 1: shifts. -/
import Derived.Test.YtkpchamgghhihaaRefH
import Derived.Test.YtkpchamgghhihaaNatQ
import Derived.Deep.DeepAppendWide
namespace Go.Proofs.Ytkpchamgghhihaa
open Go.RowKit Gm

/-- append onto a full row -/
theorem append_row {w1 : World} {g c : Nat} {A : Option Addr} {zs xs : List Nat} (hr : Row w1 g zs) (hz : Lb zs) (hx : Lim w1 A c xs) (hk : zs.length ≤ 2048) (hs : xs.length ≤ 35184372087808) (ty : TypeId) :
    ∃ A' c' w2, (Builtin.append_ #[22, 22] ty #[.slice (some ⟨g, 0, none⟩) zs.length zs.length, .slice A xs.length c]).run Try.prog w1 = .ok (.slice A' (zs.length + xs.length) c') w2 ∧ Lim w2 A' c' (zs ++ xs) ∧ Below w1.heap.size w1 w2 := by
  obtain ⟨i0, hi, hz0, hz1, hz2⟩ := info_parts info_u32
  rcases Nat.eq_zero_or_pos xs.length with h0 | h0
  · obtain rfl : xs = [] := List.eq_nil_of_length_eq_zero h0
    refine ⟨some ⟨g, 0, none⟩, zs.length, w1, ?_, by rw [List.append_nil]; exact hr.lim hz (by omega), Below.refl _ _⟩
    cases A <;> simp [Builtin.append_, run_underlying Try.underlying22, sizeOf, typeInfo, hi, Builtin.lenOf, Builtin.firstCells, loadCells, loadCellsFrom, storeCells]
  · obtain ⟨ad, rfl, hsrc⟩ := cells_of_row hx h0
    have hold : ∀ j v, (zs.map fun x => Value.int .u32 ((x : Nat) : Int))[j]? = some v → w1.cell? ((Addr.mk g 0 none).add j) = some v := by
      intro j v hj
      have hl : j < zs.length := by
        have := (List.getElem?_eq_some_iff.1 hj).1
        simpa using this
      have hv : v = .int .u32 ((zs[j]?.getD 0 : Nat) : Int) := by
        rw [List.getElem?_map, List.getElem?_eq_getElem hl] at hj
        simp at hj
        rw [← hj, List.getElem?_eq_getElem hl]; rfl
      have he : (Addr.mk g 0 none).add j = ⟨g, j, none⟩ := by
        unfold Addr.add
        split
        · next h0 => rw [h0]
        · simp
      rw [he, hv]
      exact hr.cell hl
    have h := run_append_grow (P := Try.prog) w1 22 ty 24 i0 (.int .u32 0) Try.underlying22 hi hz0 ⟨g, 0, none⟩ zs.length zs.length (zs.map fun x => Value.int .u32 ((x : Nat) : Int)) (by simp [hz1]) hold ad xs.length c (xs.map fun x => Value.int .u32 ((x : Nat) : Int)) (by simp [hz1]) hsrc
      (by omega) (by omega) (by rw [hz2]; exact growslice_fits_wide (by omega) (by omega))
    refine ⟨_, _, _, h, ?_, ?_⟩
    · have hge := grownCap_ge w1 (zs.length + xs.length) zs.length 24
      refine ⟨hz.append hx.lb, by rw [List.length_append]; exact hge, grownCap_le_maxLen w1 (zs.length + xs.length) zs.length 24 (by simp only [maxLen]; omega), fun _ => ⟨w1.heap.size, 0, rfl, by simp, fun k hk2 => ?_⟩⟩
      rw [Nat.zero_add]
      have hb := heap_alloc_new w1.drew (.cells ((zs.map fun x => Value.int .u32 ((x : Nat) : Int)).toArray ++ (xs.map fun x => Value.int .u32 ((x : Nat) : Int)).toArray ++ Builtin.zeroCells (Value.int IntKind.u32 0).cells (grownCap w1 (zs.length + xs.length) zs.length 24 - (zs.length + xs.length))) 24)
      have e := cell_of_row _ _ k _ _ _ hb
      refine e.trans ?_
      rw [List.length_append] at hk2
      rw [Array.getElem?_append_left (by simp; omega)]
      have e2 : ((zs.map fun x => Value.int .u32 ((x : Nat) : Int)).toArray ++ (xs.map fun x => Value.int .u32 ((x : Nat) : Int)).toArray) = ((zs ++ xs).map fun x => Value.int .u32 ((x : Nat) : Int)).toArray := by simp
      rw [e2]
      rw [List.getElem?_toArray, List.getElem?_map, List.getElem?_eq_getElem (show k < (zs ++ xs).length by rw [List.length_append]; omega)]
      rfl
    · exact ((Below.refl _ _).drew).alloc (Nat.le_refl _) _
theorem wpList_appr {w : World} {ops : Array Oper} {rest : List Oper} {o : Oper} {a : Act} {Q : Exit → Act → World → Prop} (hgd : o.guard = none) (s x : Operand)
    (ho : o.op = .call { callee := .builtin .append, args := #[s, x], argTypes := #[22, 22] }) (g k n c : Nat) (A : Option Addr) (zs xs : List Nat)
    (hs : a.eval s = .slice (some ⟨g, 0, none⟩) k k) (hx : a.eval x = .slice A n c) (hk : zs.length = k) (hn : xs.length = n) (hr : Row w g zs) (hz : Lb zs) (hl : Lim w A c xs) (hm1 : zs.length ≤ 2048) (hm : xs.length ≤ 35184372087808)
    (h : ∀ A' c' w2, Lim w2 A' c' (zs ++ xs) → Below w.heap.size w w2 → wpList Try.prog ops Q rest (a.put o.dst (.slice A' (k + n) c')) w2) : wpList Try.prog ops Q (o :: rest) a w := by
  subst hk hn
  refine wpList_plain hgd fun K hK => ?_
  obtain ⟨A', c', w2, hrun, h1, h2⟩ := append_row hr hz hl hm1 hm o.type
  unfold Oper.wp execOp
  simp only [ho, resolve, invoke, builtin, Sem.run_bind, Sem.run_pure, Result.andThen_ok, List.map_toArray, List.map_cons, List.map_nil, hs, hx, hrun]
  exact hK _ _ (h A' c' w2 h1 h2)

theorem bit_k (A : Option Addr) (xs : List Nat) (c i l : Nat) (w : World) (h : Lim w A c xs) (hl : xs.length = l) (hi : i ≤ 9223372036854775807) (z : Int) (hz : z = (i : Int)) :
    Calls Try.prog 122 #[.slice A l c, .int .i64 z] w fun e w' => e = .returned (.int .u32 ((val xs / 2 ^ i % 2 : Nat) : Int)) ∧ w = w' := by
  subst hl hz; exact bit_c A xs c i w h hi
theorem set_low {zs : List Nat} {d s : Nat} (hd : d < zs.length) (hs : s < 32) (hv : val zs < 2 ^ (32 * d + s)) :
    zs[d]?.getD 0 + 2 ^ s < Ba ∧ zs[d]?.getD 0 ||| 2 ^ s = zs[d]?.getD 0 + 2 ^ s ∧ val (zs.set d (zs[d]?.getD 0 + 2 ^ s)) = val zs + 2 ^ (32 * d + s) := by
  have h1 := val_split hd
  have e := val_set (zs[d]?.getD 0 + 2 ^ s) hd
  rw [Nat.pow_add, ← Ba_pow] at hv ⊢
  generalize zs[d]?.getD 0 = x at *
  have hx : x < 2 ^ s := by
    rcases Nat.lt_or_ge x (2 ^ s) with h | h
    · exact h
    · exfalso
      have h2 : Ba ^ d * 2 ^ s ≤ Ba ^ d * (x + Ba * val (zs.drop (d + 1))) := Nat.mul_le_mul_left _ (by omega)
      omega
  have hp : 2 ^ s * 2 ≤ Ba := by
    have : 2 ^ (s + 1) ≤ 2 ^ 32 := Nat.pow_le_pow_right (by decide) (by omega)
    rw [Nat.pow_succ] at this; exact this
  refine ⟨by omega, ?_, ?_⟩
  · have h3 := Nat.shiftLeft_add_eq_or_of_lt hx 1
    rw [Nat.shiftLeft_eq, Nat.one_mul] at h3
    rw [Nat.or_comm, ← h3, Nat.add_comm]
  · rw [Nat.mul_add] at e
    omega
theorem or_low32 (x s : Nat) (h : x ||| 2 ^ s = x + 2 ^ s) (hb : x + 2 ^ s < Ba) : bits .or .u32 (x : Int) (2 ^ s % 4294967296) = ((x + 2 ^ s : Nat) : Int) := by
  have h3 : 2 ^ s < 4294967296 := Nat.lt_of_le_of_lt (Nat.le_add_left _ _) hb
  have h1 : (2 : Int) ^ s % 4294967296 = ((2 ^ s : Nat) : Int) := by
    have h2 : (2 : Int) ^ s = ((2 ^ s : Nat) : Int) := by simp
    rw [h2]
    generalize 2 ^ s = P at h3 ⊢
    omega
  rw [h1, u32_or_nat x (2 ^ s) (Nat.lt_of_le_of_lt (Nat.le_add_right _ _) hb) h3, h]

end Go.Proofs.Ytkpchamgghhihaa
