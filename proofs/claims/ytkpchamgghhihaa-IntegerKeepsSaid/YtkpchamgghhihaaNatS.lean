/- Appending of zero limbs. -/
import Derived.Test.YtkpchamgghhihaaRefL
namespace Go.Proofs.Ytkpchamgghhihaa
open Go.RowKit Gm

theorem zeroCells_u32 (k : Nat) : Builtin.zeroCells (Value.int IntKind.u32 0).cells k = cellsOf (zeros k) := by
  simp only [Builtin.zeroCells, cellsOf, zeros, Value.cells]
  apply Array.ext
  · simp
  · intro i h1 h2
    simp [Nat.mod_one]
theorem cellsOf_append (xs ys : List Nat) : cellsOf xs ++ cellsOf ys = cellsOf (xs ++ ys) := by simp [cellsOf]

/-- append onto an empty slice: the whole row is known -/
theorem append_first {w1 : World} {g c : Nat} {A : Option Addr} {xs : List Nat} (hr : Row w1 g []) (hx : Lim w1 A c xs) (hs : xs.length ≤ 35184372087808) (ty : TypeId) :
    ∃ g' zs w2, (Builtin.append_ #[22, 22] ty #[.slice (some ⟨g, 0, none⟩) 0 0, .slice A xs.length c]).run Try.prog w1 = .ok (.slice (some ⟨g', 0, none⟩) xs.length zs.length) w2 ∧ Row w2 g' zs ∧ Lb zs ∧ zs.take xs.length = xs ∧ xs.length ≤ zs.length ∧ zs.length ≤ 9223372036854775807 ∧ g ≤ g' ∧ Below w1.heap.size w1 w2 := by
  obtain ⟨i0, hi, hz0, hz1, hz2⟩ := info_parts info_u32
  rcases Nat.eq_zero_or_pos xs.length with h0 | h0
  · obtain rfl : xs = [] := List.eq_nil_of_length_eq_zero h0
    refine ⟨g, [], w1, ?_, hr, Lb_nil, rfl, Nat.le_refl _, by simp, Nat.le_refl _, Below.refl _ _⟩
    cases A <;> simp [Builtin.append_, run_underlying Try.underlying22, sizeOf, typeInfo, hi, Builtin.lenOf, Builtin.firstCells, loadCells, loadCellsFrom, storeCells]
  · obtain ⟨ad, rfl, hsrc⟩ := cells_of_row hx h0
    have h := run_append_grow (P := Try.prog) w1 22 ty 24 i0 (.int .u32 0) Try.underlying22 hi hz0 ⟨g, 0, none⟩ 0 0 [] (by simp) (by simp) ad xs.length c (xs.map fun x => Value.int .u32 ((x : Nat) : Int)) (by simp [hz1]) hsrc
      (by omega) (by omega) (by rw [Nat.zero_add, nextslicecap_zero h0, hz2]; omega)
    rw [Nat.zero_add] at h
    have hge := grownCap_ge w1 xs.length 0 24
    have hle := grownCap_le_maxLen w1 xs.length 0 24 (by simp only [maxLen]; omega)
    simp only [maxLen] at hle
    have hl : (xs ++ zeros (grownCap w1 xs.length 0 24 - xs.length)).length = grownCap w1 xs.length 0 24 := by rw [List.length_append, zeros_length]; omega
    refine ⟨w1.heap.size, xs ++ zeros (grownCap w1 xs.length 0 24 - xs.length), _, by rw [hl]; exact h, ?_, hx.lb.append (zeros_lb _), by simp, by rw [hl]; exact hge, by rw [hl]; exact hle, Nat.le_of_lt hr.lt, ((Below.refl _ _).drew).alloc (Nat.le_refl _) _⟩
    have hb := heap_alloc_new w1.drew (.cells (([] : List Value).toArray ++ (xs.map fun x => Value.int .u32 ((x : Nat) : Int)).toArray ++ Builtin.zeroCells (Value.int IntKind.u32 0).cells (grownCap w1 xs.length 0 24 - xs.length)) 24)
    unfold Row
    rw [← cellsOf_append, ← zeroCells_u32]
    simpa [cellsOf] using hb
/-- append of k zero limbs -/
theorem append_zeros {w : World} {g len k : Nat} {zs : List Nat} (hr : Row w g zs) (hz : Lb zs) (hl : len ≤ zs.length) (hm : zs.length ≤ 9223372036854775807) (hk : k ≤ 4) (hs : len ≤ 35184372087808) (ty : TypeId) :
    ∃ A' c' w2, (Builtin.append_ #[22, 5] ty #[.slice (some ⟨g, 0, none⟩) len zs.length, .int .u8 (k : Int)]).run Try.prog w = .ok (.slice A' (len + k) c') w2 ∧ Lim w2 A' c' (zs.take len ++ zeros k) ∧ Below g w w2 := by
  obtain ⟨i0, hi, hz0, hz1, hz2⟩ := info_parts info_u32
  have hw : IntKind.i64.wrap (k : Int) = (k : Int) := IntWalk.i64_in _ (by omega)
  have h48 : ¬ (281474976710656 < (k : Int) * 4) := by omega
  rcases Nat.eq_zero_or_pos k with rfl | hk0
  · have hlim := (hr.lim hz hm).take len
    have hw0 : IntKind.i64.wrap 0 = 0 := rfl
    refine ⟨some ⟨g, 0, none⟩, zs.length, w, ?_, by simpa [zeros] using hlim, Below.refl _ _⟩
    simp [Builtin.append_, run_underlying Try.underlying22, run_underlying Try.underlying5, sizeOf, typeInfo, hi, asInt, asIntOf, hw0, hl, storeCells]
  have hne : ¬ k = 0 := by omega
  have hkn : ¬ (k : Int) < 0 := by omega
  have hzr : (Builtin.zeroCells (Value.int IntKind.u32 0).cells k).toList = (zeros k).map fun x => Value.int .u32 ((x : Nat) : Int) := by rw [zeroCells_u32]; simp [cellsOf]
  by_cases hroom : len + k ≤ zs.length
  · have hst := run_storeCells_at (P := Try.prog) g len 24 ((zeros k).map fun x => Value.int .u32 ((x : Nat) : Int)) 0 (cellsOf zs) w hr (by simp [cellsOf, zeros_length]; omega) (by intro v hv; obtain ⟨x, _, rfl⟩ := List.mem_map.1 hv; rfl)
    rw [Nat.add_zero] at hst
    have e : ((cellsOf zs).toList.take len ++ ((zeros k).map fun x => Value.int .u32 ((x : Nat) : Int)) ++ (cellsOf zs).toList.drop (len + ((zeros k).map fun x => Value.int .u32 ((x : Nat) : Int)).length)).toArray = cellsOf (zs.take len ++ zeros k ++ zs.drop (len + k)) := by
      simp [cellsOf, List.map_take, List.map_drop, zeros_length]
    rw [e] at hst
    have hrow : Row (w.setRow g (cellsOf (zs.take len ++ zeros k ++ zs.drop (len + k)))) g (zs.take len ++ zeros k ++ zs.drop (len + k)) := setRow_heap w g _ _ 24 _ hr
    have hlb : Lb (zs.take len ++ zeros k ++ zs.drop (len + k)) := ((hz.take _).append (zeros_lb _)).append (hz.drop _)
    have hll : (zs.take len ++ zeros k ++ zs.drop (len + k)).length = zs.length := by simp [zeros_length]; omega
    have hlim := (hrow.lim hlb (by rw [hll]; exact hm)).take (len + k)
    have htk : (zs.take len ++ zeros k ++ zs.drop (len + k)).take (len + k) = zs.take len ++ zeros k := List.take_left' (by rw [List.length_append, List.length_take, zeros_length]; omega)
    rw [hll, htk] at hlim
    refine ⟨some ⟨g, 0, none⟩, zs.length, _, ?_, hlim, below_setRow (Below.refl _ _) (Nat.le_refl _) _⟩
    have hadd : (Addr.mk g 0 none).add len = ⟨g, len, none⟩ := by
      unfold Addr.add
      split
      · next h0 => rw [h0]
      · simp
    simp [Builtin.append_, run_underlying Try.underlying22, run_underlying Try.underlying5, sizeOf, typeInfo, zeroValue, hi, hz0, asInt, asIntOf, hw, h48, hz1, hz2, hroom, hne, hadd]
    rw [if_neg hkn, hzr, hst]
    simp
  · have holds : ∀ j v, ((zs.take len).map fun x => Value.int .u32 ((x : Nat) : Int))[j]? = some v → w.drew.cell? ((Addr.mk g 0 none).add j) = some v := by
      intro j v hj
      have hl2 : j < (zs.take len).length := by
        have := (List.getElem?_eq_some_iff.1 hj).1
        simpa using this
      have hl3 : j < zs.length := by rw [List.length_take] at hl2; omega
      have hl4 : j < len := by rw [List.length_take] at hl2; omega
      have hv : v = .int .u32 ((zs[j]?.getD 0 : Nat) : Int) := by
        rw [List.getElem?_map, List.getElem?_take_of_lt hl4, List.getElem?_eq_getElem hl3] at hj
        simp at hj
        rw [← hj, List.getElem?_eq_getElem hl3]; rfl
      have he : (Addr.mk g 0 none).add j = ⟨g, j, none⟩ := by
        unfold Addr.add
        split
        · next h0 => rw [h0]
        · simp
      rw [he, hv]
      exact (hr.drewN 1).cell hl3
    have hfo := run_firstCells_some (P := Try.prog) w.drew i0.size len ⟨g, 0, none⟩ len zs.length ((zs.take len).map fun x => Value.int .u32 ((x : Nat) : Int)) (by simp [hz1]; omega) holds
    have hfit : ¬ (281474976710656 < Builtin.nextslicecap (len + k) zs.length * 4) := by
      have := growslice_fits_wide (need := len + k) (old := zs.length) (bytes := 4) (by omega) (by omega)
      omega
    have h63 : ¬ (9223372036854775807 < ((len : Int) + (k : Int))) := by omega
    have hge := grownCap_ge w (len + k) zs.length 24
    have hle := grownCap_le_maxLen w (len + k) zs.length 24 (by simp only [maxLen]; omega)
    simp only [maxLen] at hle
    refine ⟨some ⟨w.heap.size, 0, none⟩, grownCap w (len + k) zs.length 24, w.drew.alloc (.cells (cellsOf (zs.take len ++ zeros k ++ zeros (grownCap w (len + k) zs.length 24 - (len + k)))) 24), ?_, ?_, ((Below.refl _ _).drew).alloc (Nat.le_of_lt hr.lt) _⟩
    · rw [← cellsOf_append, ← cellsOf_append, ← zeroCells_u32, ← zeroCells_u32]
      simp [Builtin.append_, run_underlying Try.underlying22, run_underlying Try.underlying5, sizeOf, typeInfo, zeroValue, hi, hz0, asInt, asIntOf, hw, h48, hz2, hroom, hne, hkn, hfit, h63, Question.forced, newRow, grownCap, hz1]
      rw [hz1] at hfo
      rw [hfo]
      rfl
    · have hrow := Row.new w.drew (zs.take len ++ zeros k ++ zeros (grownCap w (len + k) zs.length 24 - (len + k)))
      have hll : (zs.take len ++ zeros k ++ zeros (grownCap w (len + k) zs.length 24 - (len + k))).length = grownCap w (len + k) zs.length 24 := by simp [zeros_length]; omega
      have htk : (zs.take len ++ zeros k ++ zeros (grownCap w (len + k) zs.length 24 - (len + k))).take (len + k) = zs.take len ++ zeros k := List.take_left' (by rw [List.length_append, List.length_take, zeros_length]; omega)
      have hlim := (hrow.lim (((hz.take _).append (zeros_lb _)).append (zeros_lb _)) (by rw [hll]; exact hle)).take (len + k)
      rw [hll, htk] at hlim
      exact hlim
theorem wpList_appf {w : World} {ops : Array Oper} {rest : List Oper} {o : Oper} {a : Act} {Q : Exit → Act → World → Prop} (hgd : o.guard = none) (s x : Operand)
    (ho : o.op = .call { callee := .builtin .append, args := #[s, x], argTypes := #[22, 22] }) (g n c : Nat) (A : Option Addr) (xs : List Nat)
    (hs : a.eval s = .slice (some ⟨g, 0, none⟩) 0 0) (hx : a.eval x = .slice A n c) (hn : xs.length = n) (hr : Row w g []) (hl : Lim w A c xs) (hm : xs.length ≤ 35184372087808)
    (h : ∀ g' k zs w2, zs.length = k → Row w2 g' zs → Lb zs → zs.take n = xs → n ≤ zs.length → zs.length ≤ 9223372036854775807 → g ≤ g' → Below w.heap.size w w2 → wpList Try.prog ops Q rest (a.put o.dst (.slice (some ⟨g', 0, none⟩) n k)) w2) : wpList Try.prog ops Q (o :: rest) a w := by
  subst hn
  refine wpList_plain hgd fun K hK => ?_
  obtain ⟨g', zs, w2, hrun, h1, h2, h3, h4, h5, h6, h7⟩ := append_first hr hl hm o.type
  unfold Oper.wp execOp
  simp only [ho, resolve, invoke, builtin, Sem.run_bind, Sem.run_pure, Result.andThen_ok, List.map_toArray, List.map_cons, List.map_nil, hs, hx, hrun]
  exact hK _ _ (h g' zs.length zs w2 rfl h1 h2 h3 h4 h5 h6 h7)
theorem wpList_appz {w : World} {ops : Array Oper} {rest : List Oper} {o : Oper} {a : Act} {Q : Exit → Act → World → Prop} (hgd : o.guard = none) (s x : Operand)
    (ho : o.op = .call { callee := .builtin .append, args := #[s, x], argTypes := #[22, 5] }) (g n m k : Nat) (zs : List Nat) (z : Int)
    (hs : a.eval s = .slice (some ⟨g, 0, none⟩) n m) (hx : a.eval x = .int .u8 z) (hzk : z = (k : Int)) (hm0 : zs.length = m) (hr : Row w g zs) (hz : Lb zs) (hl : n ≤ zs.length) (hm : zs.length ≤ 9223372036854775807) (hk : k ≤ 4) (hn : n ≤ 35184372087808)
    (h : ∀ A' c' X w2, val X = val (zs.take n) → X.length = n + k → Lim w2 A' c' X → Below g w w2 → wpList Try.prog ops Q rest (a.put o.dst (.slice A' X.length c')) w2) : wpList Try.prog ops Q (o :: rest) a w := by
  subst hm0 hzk
  refine wpList_plain hgd fun K hK => ?_
  obtain ⟨A', c', w2, hrun, h1, h2⟩ := append_zeros hr hz hl hm hk hn o.type
  have hlen : (zs.take n ++ zeros k).length = n + k := by rw [List.length_append, List.length_take, zeros_length]; omega
  unfold Oper.wp execOp
  simp only [ho, resolve, invoke, builtin, Sem.run_bind, Sem.run_pure, Result.andThen_ok, List.map_toArray, List.map_cons, List.map_nil, hs, hx, hrun]
  have h3 := h A' c' (zs.take n ++ zeros k) w2 (val_append_zeros _ _) hlen h1 h2
  rw [hlen] at h3
  exact hK _ _ h3
theorem Mul_v (A B : Option Addr) (xs ys : List Nat) (c d : Nat) (w : World) (m n s K L : Nat) (ha : Lim w A c xs) (hb : Lim w B d ys) (_ : xs.length ≤ K) (_ : ys.length ≤ L) (hm : val xs = m) (hn : val ys = n) (h : m * n = s) (hs : (limbs m).length + (limbs n).length ≤ 70368744177664) :
    Calls Try.prog 20 #[.slice A xs.length c, .slice B ys.length d] w (RetNat w s) := by
  subst hm hn h; exact Mul_w A B xs ys c d w ha hb hs
end Go.Proofs.Ytkpchamgghhihaa
