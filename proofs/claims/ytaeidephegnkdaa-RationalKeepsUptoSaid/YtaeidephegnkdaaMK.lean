/- RefL NatS Keep KeepI in one text. -/
import Derived.Test.YtaeidephegnkdaaRefH
import Derived.Test.YtaeidephegnkdaaNatQ
import Derived.Deep.DeepAppendWide
import Derived.Test.YtaeidephegnkdaaNatM
import Derived.Test.YtaeidephegnkdaaMG
namespace Go.Proofs.Ytaeidephegnkdaa
open Go.RowKit Gm
/- Contracts of the reference of layer 1: shifts. -/

/-- append onto a full row -/
theorem append_row {w1 : World} {g c : Nat} {A : Option Addr} {zs xs : List Nat} (hr : Row w1 g zs) (hz : Lb zs) (hx : Lim w1 A c xs) (hk : zs.length ≤ 2048) (hs : xs.length ≤ 35184372087808) (ty : TypeId) :
    ∃ A' c' w2, (Builtin.append_ #[22, 22] ty #[.slice (some ⟨g, 0, none⟩) zs.length zs.length, .slice A xs.length c]).run Try.prog w1 = .ok (.slice A' (zs.length + xs.length) c') w2 ∧ Lim w2 A' c' (zs ++ xs) ∧ Below w1.heap.size w1 w2 := by
  obtain ⟨i0, hi, hz0, hz1, hz2⟩ := info_parts info_u32
  rcases Nat.eq_zero_or_pos xs.length with h0 | h0
  · obtain rfl : xs = [] := List.eq_nil_of_length_eq_zero h0
    refine ⟨some ⟨g, 0, none⟩, zs.length, w1, ?_, by rw [List.append_nil]; exact hr.lim hz (by omega), Below.refl _ _⟩
    cases A <;> simp [Builtin.append_, run_underlying Try.underlying22, sizeOf, typeInfo, hi, Builtin.lenOf, Builtin.firstCells, loadCells, loadCellsFrom, storeCells]
  · obtain ⟨ad, rfl, hsrc⟩ := cells_of_row hx h0
    have hold : ∀ j v, (zs.map fun x => Value.int .u32 ((x : Nat) : Int))[j]? = some v → w1.cell? ((Addr.mk g 0 none).add j) = some v := by
      intro j v hj
      have hl : j < zs.length := by
        have := (List.getElem?_eq_some_iff.1 hj).1
        simpa using this
      have hv : v = .int .u32 ((zs[j]?.getD 0 : Nat) : Int) := by
        rw [List.getElem?_map, List.getElem?_eq_getElem hl] at hj
        simp at hj
        rw [← hj, List.getElem?_eq_getElem hl]; rfl
      have he : (Addr.mk g 0 none).add j = ⟨g, j, none⟩ := by
        unfold Addr.add
        split
        · next h0 => rw [h0]
        · simp
      rw [he, hv]
      exact hr.cell hl
    have h := run_append_grow (P := Try.prog) w1 22 ty 40 i0 (.int .u32 0) Try.underlying22 hi hz0 ⟨g, 0, none⟩ zs.length zs.length (zs.map fun x => Value.int .u32 ((x : Nat) : Int)) (by simp [hz1]) hold ad xs.length c (xs.map fun x => Value.int .u32 ((x : Nat) : Int)) (by simp [hz1]) hsrc
      (by omega) (by omega) (by rw [hz2]; exact growslice_fits_wide (by omega) (by omega))
    refine ⟨_, _, _, h, ?_, ?_⟩
    · have hge := grownCap_ge w1 (zs.length + xs.length) zs.length 40
      refine ⟨hz.append hx.lb, by rw [List.length_append]; exact hge, grownCap_le_maxLen w1 (zs.length + xs.length) zs.length 40 (by simp only [maxLen]; omega), fun _ => ⟨w1.heap.size, 0, rfl, by simp, fun k hk2 => ?_⟩⟩
      rw [Nat.zero_add]
      have hb := heap_alloc_new w1.drew (.cells ((zs.map fun x => Value.int .u32 ((x : Nat) : Int)).toArray ++ (xs.map fun x => Value.int .u32 ((x : Nat) : Int)).toArray ++ Builtin.zeroCells (Value.int IntKind.u32 0).cells (grownCap w1 (zs.length + xs.length) zs.length 40 - (zs.length + xs.length))) 40)
      have e := cell_of_row _ _ k _ _ _ hb
      refine e.trans ?_
      rw [List.length_append] at hk2
      rw [Array.getElem?_append_left (by simp; omega)]
      have e2 : ((zs.map fun x => Value.int .u32 ((x : Nat) : Int)).toArray ++ (xs.map fun x => Value.int .u32 ((x : Nat) : Int)).toArray) = ((zs ++ xs).map fun x => Value.int .u32 ((x : Nat) : Int)).toArray := by simp
      rw [e2]
      rw [List.getElem?_toArray, List.getElem?_map, List.getElem?_eq_getElem (show k < (zs ++ xs).length by rw [List.length_append]; omega)]
      rfl
    · exact ((Below.refl _ _).drew).alloc (Nat.le_refl _) _
theorem wpList_appr {w : World} {ops : Array Oper} {rest : List Oper} {o : Oper} {a : Act} {Q : Exit → Act → World → Prop} (hgd : o.guard = none) (s x : Operand)
    (ho : o.op = .call { callee := .builtin .append, args := #[s, x], argTypes := #[22, 22] }) (g k n c : Nat) (A : Option Addr) (zs xs : List Nat)
    (hs : a.eval s = .slice (some ⟨g, 0, none⟩) k k) (hx : a.eval x = .slice A n c) (hk : zs.length = k) (hn : xs.length = n) (hr : Row w g zs) (hz : Lb zs) (hl : Lim w A c xs) (hm1 : zs.length ≤ 2048) (hm : xs.length ≤ 35184372087808)
    (h : ∀ A' c' w2, Lim w2 A' c' (zs ++ xs) → Below w.heap.size w w2 → wpList Try.prog ops Q rest (a.put o.dst (.slice A' (k + n) c')) w2) : wpList Try.prog ops Q (o :: rest) a w := by
  subst hk hn
  refine wpList_plain hgd fun K hK => ?_
  obtain ⟨A', c', w2, hrun, h1, h2⟩ := append_row hr hz hl hm1 hm o.type
  unfold Oper.wp execOp
  simp only [ho, resolve, invoke, builtin, Sem.run_bind, Sem.run_pure, Result.andThen_ok, List.map_toArray, List.map_cons, List.map_nil, hs, hx, hrun]
  exact hK _ _ (h A' c' w2 h1 h2)

theorem bit_k (A : Option Addr) (xs : List Nat) (c i l : Nat) (w : World) (h : Lim w A c xs) (hl : xs.length = l) (hi : i ≤ 9223372036854775807) (z : Int) (hz : z = (i : Int)) :
    Calls Try.prog 117 #[.slice A l c, .int .i64 z] w fun e w' => e = .returned (.int .u32 ((val xs / 2 ^ i % 2 : Nat) : Int)) ∧ w = w' := by
  subst hl hz; exact bit_c A xs c i w h hi
theorem set_low {zs : List Nat} {d s : Nat} (hd : d < zs.length) (hs : s < 32) (hv : val zs < 2 ^ (32 * d + s)) :
    zs[d]?.getD 0 + 2 ^ s < Ba ∧ zs[d]?.getD 0 ||| 2 ^ s = zs[d]?.getD 0 + 2 ^ s ∧ val (zs.set d (zs[d]?.getD 0 + 2 ^ s)) = val zs + 2 ^ (32 * d + s) := by
  have h1 := val_split hd
  have e := val_set (zs[d]?.getD 0 + 2 ^ s) hd
  rw [Nat.pow_add, ← Ba_pow] at hv ⊢
  generalize zs[d]?.getD 0 = x at *
  have hx : x < 2 ^ s := by
    rcases Nat.lt_or_ge x (2 ^ s) with h | h
    · exact h
    · exfalso
      have h2 : Ba ^ d * 2 ^ s ≤ Ba ^ d * (x + Ba * val (zs.drop (d + 1))) := Nat.mul_le_mul_left _ (by omega)
      omega
  have hp : 2 ^ s * 2 ≤ Ba := by
    have : 2 ^ (s + 1) ≤ 2 ^ 32 := Nat.pow_le_pow_right (by decide) (by omega)
    rw [Nat.pow_succ] at this; exact this
  refine ⟨by omega, ?_, ?_⟩
  · have h3 := Nat.shiftLeft_add_eq_or_of_lt hx 1
    rw [Nat.shiftLeft_eq, Nat.one_mul] at h3
    rw [Nat.or_comm, ← h3, Nat.add_comm]
  · rw [Nat.mul_add] at e
    omega
theorem or_low32 (x s : Nat) (h : x ||| 2 ^ s = x + 2 ^ s) (hb : x + 2 ^ s < Ba) : bits .or .u32 (x : Int) (2 ^ s % 4294967296) = ((x + 2 ^ s : Nat) : Int) := by
  have h3 : 2 ^ s < 4294967296 := Nat.lt_of_le_of_lt (Nat.le_add_left _ _) hb
  have h1 : (2 : Int) ^ s % 4294967296 = ((2 ^ s : Nat) : Int) := by
    have h2 : (2 : Int) ^ s = ((2 ^ s : Nat) : Int) := by simp
    rw [h2]
    generalize 2 ^ s = P at h3 ⊢
    omega
  rw [h1, u32_or_nat x (2 ^ s) (Nat.lt_of_le_of_lt (Nat.le_add_right _ _) hb) h3, h]


/- Appending of zero limbs. -/

theorem zeroCells_u32 (k : Nat) : Builtin.zeroCells (Value.int IntKind.u32 0).cells k = cellsOf (zeros k) := by
  simp only [Builtin.zeroCells, cellsOf, zeros, Value.cells]
  apply Array.ext
  · simp
  · intro i h1 h2
    simp [Nat.mod_one]
theorem cellsOf_append (xs ys : List Nat) : cellsOf xs ++ cellsOf ys = cellsOf (xs ++ ys) := by simp [cellsOf]

/-- append onto an empty slice: the whole row is known -/
theorem append_first {w1 : World} {g c : Nat} {A : Option Addr} {xs : List Nat} (hr : Row w1 g []) (hx : Lim w1 A c xs) (hs : xs.length ≤ 35184372087808) (ty : TypeId) :
    ∃ g' zs w2, (Builtin.append_ #[22, 22] ty #[.slice (some ⟨g, 0, none⟩) 0 0, .slice A xs.length c]).run Try.prog w1 = .ok (.slice (some ⟨g', 0, none⟩) xs.length zs.length) w2 ∧ Row w2 g' zs ∧ Lb zs ∧ zs.take xs.length = xs ∧ xs.length ≤ zs.length ∧ zs.length ≤ 9223372036854775807 ∧ g ≤ g' ∧ Below w1.heap.size w1 w2 := by
  obtain ⟨i0, hi, hz0, hz1, hz2⟩ := info_parts info_u32
  rcases Nat.eq_zero_or_pos xs.length with h0 | h0
  · obtain rfl : xs = [] := List.eq_nil_of_length_eq_zero h0
    refine ⟨g, [], w1, ?_, hr, Lb_nil, rfl, Nat.le_refl _, by simp, Nat.le_refl _, Below.refl _ _⟩
    cases A <;> simp [Builtin.append_, run_underlying Try.underlying22, sizeOf, typeInfo, hi, Builtin.lenOf, Builtin.firstCells, loadCells, loadCellsFrom, storeCells]
  · obtain ⟨ad, rfl, hsrc⟩ := cells_of_row hx h0
    have h := run_append_grow (P := Try.prog) w1 22 ty 40 i0 (.int .u32 0) Try.underlying22 hi hz0 ⟨g, 0, none⟩ 0 0 [] (by simp) (by simp) ad xs.length c (xs.map fun x => Value.int .u32 ((x : Nat) : Int)) (by simp [hz1]) hsrc
      (by omega) (by omega) (by rw [Nat.zero_add, nextslicecap_zero h0, hz2]; omega)
    rw [Nat.zero_add] at h
    have hge := grownCap_ge w1 xs.length 0 40
    have hle := grownCap_le_maxLen w1 xs.length 0 40 (by simp only [maxLen]; omega)
    simp only [maxLen] at hle
    have hl : (xs ++ zeros (grownCap w1 xs.length 0 40 - xs.length)).length = grownCap w1 xs.length 0 40 := by rw [List.length_append, zeros_length]; omega
    refine ⟨w1.heap.size, xs ++ zeros (grownCap w1 xs.length 0 40 - xs.length), _, by rw [hl]; exact h, ?_, hx.lb.append (zeros_lb _), by simp, by rw [hl]; exact hge, by rw [hl]; exact hle, Nat.le_of_lt hr.lt, ((Below.refl _ _).drew).alloc (Nat.le_refl _) _⟩
    have hb := heap_alloc_new w1.drew (.cells (([] : List Value).toArray ++ (xs.map fun x => Value.int .u32 ((x : Nat) : Int)).toArray ++ Builtin.zeroCells (Value.int IntKind.u32 0).cells (grownCap w1 xs.length 0 40 - xs.length)) 40)
    unfold Row
    rw [← cellsOf_append, ← zeroCells_u32]
    simpa [cellsOf] using hb
/-- append of k zero limbs -/
theorem append_zeros {w : World} {g len k : Nat} {zs : List Nat} (hr : Row w g zs) (hz : Lb zs) (hl : len ≤ zs.length) (hm : zs.length ≤ 9223372036854775807) (hk : k ≤ 4) (hs : len ≤ 35184372087808) (ty : TypeId) :
    ∃ A' c' w2, (Builtin.append_ #[22, 5] ty #[.slice (some ⟨g, 0, none⟩) len zs.length, .int .u8 (k : Int)]).run Try.prog w = .ok (.slice A' (len + k) c') w2 ∧ Lim w2 A' c' (zs.take len ++ zeros k) ∧ Below g w w2 := by
  obtain ⟨i0, hi, hz0, hz1, hz2⟩ := info_parts info_u32
  have hw : IntKind.i64.wrap (k : Int) = (k : Int) := IntWalk.i64_in _ (by omega)
  have h48 : ¬ (281474976710656 < (k : Int) * 4) := by omega
  rcases Nat.eq_zero_or_pos k with rfl | hk0
  · have hlim := (hr.lim hz hm).take len
    have hw0 : IntKind.i64.wrap 0 = 0 := rfl
    refine ⟨some ⟨g, 0, none⟩, zs.length, w, ?_, by simpa [zeros] using hlim, Below.refl _ _⟩
    simp [Builtin.append_, run_underlying Try.underlying22, run_underlying Try.underlying5, sizeOf, typeInfo, hi, asInt, asIntOf, hw0, hl, storeCells]
  have hne : ¬ k = 0 := by omega
  have hkn : ¬ (k : Int) < 0 := by omega
  have hzr : (Builtin.zeroCells (Value.int IntKind.u32 0).cells k).toList = (zeros k).map fun x => Value.int .u32 ((x : Nat) : Int) := by rw [zeroCells_u32]; simp [cellsOf]
  by_cases hroom : len + k ≤ zs.length
  · have hst := run_storeCells_at (P := Try.prog) g len 40 ((zeros k).map fun x => Value.int .u32 ((x : Nat) : Int)) 0 (cellsOf zs) w hr (by simp [cellsOf, zeros_length]; omega) (by intro v hv; obtain ⟨x, _, rfl⟩ := List.mem_map.1 hv; rfl)
    rw [Nat.add_zero] at hst
    have e : ((cellsOf zs).toList.take len ++ ((zeros k).map fun x => Value.int .u32 ((x : Nat) : Int)) ++ (cellsOf zs).toList.drop (len + ((zeros k).map fun x => Value.int .u32 ((x : Nat) : Int)).length)).toArray = cellsOf (zs.take len ++ zeros k ++ zs.drop (len + k)) := by
      simp [cellsOf, List.map_take, List.map_drop, zeros_length]
    rw [e] at hst
    have hrow : Row (w.setRow g (cellsOf (zs.take len ++ zeros k ++ zs.drop (len + k)))) g (zs.take len ++ zeros k ++ zs.drop (len + k)) := setRow_heap w g _ _ 40 _ hr
    have hlb : Lb (zs.take len ++ zeros k ++ zs.drop (len + k)) := ((hz.take _).append (zeros_lb _)).append (hz.drop _)
    have hll : (zs.take len ++ zeros k ++ zs.drop (len + k)).length = zs.length := by simp [zeros_length]; omega
    have hlim := (hrow.lim hlb (by rw [hll]; exact hm)).take (len + k)
    have htk : (zs.take len ++ zeros k ++ zs.drop (len + k)).take (len + k) = zs.take len ++ zeros k := List.take_left' (by rw [List.length_append, List.length_take, zeros_length]; omega)
    rw [hll, htk] at hlim
    refine ⟨some ⟨g, 0, none⟩, zs.length, _, ?_, hlim, below_setRow (Below.refl _ _) (Nat.le_refl _) _⟩
    have hadd : (Addr.mk g 0 none).add len = ⟨g, len, none⟩ := by
      unfold Addr.add
      split
      · next h0 => rw [h0]
      · simp
    simp [Builtin.append_, run_underlying Try.underlying22, run_underlying Try.underlying5, sizeOf, typeInfo, zeroValue, hi, hz0, asInt, asIntOf, hw, h48, hz1, hz2, hroom, hne, hadd]
    rw [if_neg hkn, hzr, hst]
    simp
  · have holds : ∀ j v, ((zs.take len).map fun x => Value.int .u32 ((x : Nat) : Int))[j]? = some v → w.drew.cell? ((Addr.mk g 0 none).add j) = some v := by
      intro j v hj
      have hl2 : j < (zs.take len).length := by
        have := (List.getElem?_eq_some_iff.1 hj).1
        simpa using this
      have hl3 : j < zs.length := by rw [List.length_take] at hl2; omega
      have hl4 : j < len := by rw [List.length_take] at hl2; omega
      have hv : v = .int .u32 ((zs[j]?.getD 0 : Nat) : Int) := by
        rw [List.getElem?_map, List.getElem?_take_of_lt hl4, List.getElem?_eq_getElem hl3] at hj
        simp at hj
        rw [← hj, List.getElem?_eq_getElem hl3]; rfl
      have he : (Addr.mk g 0 none).add j = ⟨g, j, none⟩ := by
        unfold Addr.add
        split
        · next h0 => rw [h0]
        · simp
      rw [he, hv]
      exact (hr.drewN 1).cell hl3
    have hfo := run_firstCells_some (P := Try.prog) w.drew i0.size len ⟨g, 0, none⟩ len zs.length ((zs.take len).map fun x => Value.int .u32 ((x : Nat) : Int)) (by simp [hz1]; omega) holds
    have hfit : ¬ (281474976710656 < Builtin.nextslicecap (len + k) zs.length * 4) := by
      have := growslice_fits_wide (need := len + k) (old := zs.length) (bytes := 4) (by omega) (by omega)
      omega
    have h63 : ¬ (9223372036854775807 < ((len : Int) + (k : Int))) := by omega
    have hge := grownCap_ge w (len + k) zs.length 40
    have hle := grownCap_le_maxLen w (len + k) zs.length 40 (by simp only [maxLen]; omega)
    simp only [maxLen] at hle
    refine ⟨some ⟨w.heap.size, 0, none⟩, grownCap w (len + k) zs.length 40, w.drew.alloc (.cells (cellsOf (zs.take len ++ zeros k ++ zeros (grownCap w (len + k) zs.length 40 - (len + k)))) 40), ?_, ?_, ((Below.refl _ _).drew).alloc (Nat.le_of_lt hr.lt) _⟩
    · rw [← cellsOf_append, ← cellsOf_append, ← zeroCells_u32, ← zeroCells_u32]
      simp [Builtin.append_, run_underlying Try.underlying22, run_underlying Try.underlying5, sizeOf, typeInfo, zeroValue, hi, hz0, asInt, asIntOf, hw, h48, hz2, hroom, hne, hkn, hfit, h63, Question.forced, newRow, grownCap, hz1]
      rw [hz1] at hfo
      rw [hfo]
      rfl
    · have hrow := Row.new w.drew (zs.take len ++ zeros k ++ zeros (grownCap w (len + k) zs.length 40 - (len + k)))
      have hll : (zs.take len ++ zeros k ++ zeros (grownCap w (len + k) zs.length 40 - (len + k))).length = grownCap w (len + k) zs.length 40 := by simp [zeros_length]; omega
      have htk : (zs.take len ++ zeros k ++ zeros (grownCap w (len + k) zs.length 40 - (len + k))).take (len + k) = zs.take len ++ zeros k := List.take_left' (by rw [List.length_append, List.length_take, zeros_length]; omega)
      have hlim := (hrow.lim (((hz.take _).append (zeros_lb _)).append (zeros_lb _)) (by rw [hll]; exact hle)).take (len + k)
      rw [hll, htk] at hlim
      exact hlim
theorem wpList_appf {w : World} {ops : Array Oper} {rest : List Oper} {o : Oper} {a : Act} {Q : Exit → Act → World → Prop} (hgd : o.guard = none) (s x : Operand)
    (ho : o.op = .call { callee := .builtin .append, args := #[s, x], argTypes := #[22, 22] }) (g n c : Nat) (A : Option Addr) (xs : List Nat)
    (hs : a.eval s = .slice (some ⟨g, 0, none⟩) 0 0) (hx : a.eval x = .slice A n c) (hn : xs.length = n) (hr : Row w g []) (hl : Lim w A c xs) (hm : xs.length ≤ 35184372087808)
    (h : ∀ g' k zs w2, zs.length = k → Row w2 g' zs → Lb zs → zs.take n = xs → n ≤ zs.length → zs.length ≤ 9223372036854775807 → g ≤ g' → Below w.heap.size w w2 → wpList Try.prog ops Q rest (a.put o.dst (.slice (some ⟨g', 0, none⟩) n k)) w2) : wpList Try.prog ops Q (o :: rest) a w := by
  subst hn
  refine wpList_plain hgd fun K hK => ?_
  obtain ⟨g', zs, w2, hrun, h1, h2, h3, h4, h5, h6, h7⟩ := append_first hr hl hm o.type
  unfold Oper.wp execOp
  simp only [ho, resolve, invoke, builtin, Sem.run_bind, Sem.run_pure, Result.andThen_ok, List.map_toArray, List.map_cons, List.map_nil, hs, hx, hrun]
  exact hK _ _ (h g' zs.length zs w2 rfl h1 h2 h3 h4 h5 h6 h7)
theorem wpList_appz {w : World} {ops : Array Oper} {rest : List Oper} {o : Oper} {a : Act} {Q : Exit → Act → World → Prop} (hgd : o.guard = none) (s x : Operand)
    (ho : o.op = .call { callee := .builtin .append, args := #[s, x], argTypes := #[22, 5] }) (g n m k : Nat) (zs : List Nat) (z : Int)
    (hs : a.eval s = .slice (some ⟨g, 0, none⟩) n m) (hx : a.eval x = .int .u8 z) (hzk : z = (k : Int)) (hm0 : zs.length = m) (hr : Row w g zs) (hz : Lb zs) (hl : n ≤ zs.length) (hm : zs.length ≤ 9223372036854775807) (hk : k ≤ 4) (hn : n ≤ 35184372087808)
    (h : ∀ A' c' X w2, val X = val (zs.take n) → X.length = n + k → Lim w2 A' c' X → Below g w w2 → wpList Try.prog ops Q rest (a.put o.dst (.slice A' X.length c')) w2) : wpList Try.prog ops Q (o :: rest) a w := by
  subst hm0 hzk
  refine wpList_plain hgd fun K hK => ?_
  obtain ⟨A', c', w2, hrun, h1, h2⟩ := append_zeros hr hz hl hm hk hn o.type
  have hlen : (zs.take n ++ zeros k).length = n + k := by rw [List.length_append, List.length_take, zeros_length]; omega
  unfold Oper.wp execOp
  simp only [ho, resolve, invoke, builtin, Sem.run_bind, Sem.run_pure, Result.andThen_ok, List.map_toArray, List.map_cons, List.map_nil, hs, hx, hrun]
  have h3 := h A' c' (zs.take n ++ zeros k) w2 (val_append_zeros _ _) hlen h1 h2
  rw [hlen] at h3
  exact hK _ _ h3
theorem Mul_v (A B : Option Addr) (xs ys : List Nat) (c d : Nat) (w : World) (m n s K L : Nat) (ha : Lim w A c xs) (hb : Lim w B d ys) (_ : xs.length ≤ K) (_ : ys.length ≤ L) (hm : val xs = m) (hn : val ys = n) (h : m * n = s) (hs : (limbs m).length + (limbs n).length ≤ 70368744177664) :
    Calls Try.prog 64 #[.slice A xs.length c, .slice B ys.length d] w (RetNat w s) := by
  subst hm hn h; exact Mul_w A B xs ys c d w ha hb hs

/- Contracts of the helpers Spare, Wipe, Kept and Equal, at limbs. -/

set_option maxHeartbeats 400000 in
theorem hEqual_c (A B : Option Addr) (xs ys : List Nat) (c d : Nat) (w : World) (ha : Lim w A c xs) (hb : Lim w B d ys) (hs : xs.length ≤ 70368744177664) (ht : ys.length ≤ 70368744177664) :
    Calls Try.prog 70 #[.slice A xs.length c, .slice B ys.length d] w fun e w' => e = .returned (.bool (decide (xs = ys))) ∧ ∃ n, w' = w.drewN n := by
  go_enter Try.func70, Try.ntmps70
  by_cases hne : xs.length = ys.length
  · have hb1 : ((xs.length : Int) != (ys.length : Int)) = false := by simp [hne]
    have HN := Lib.hid hne
    clear hne
    go_wp2_with fail
    go_loopw [5] (fun t wr => ∃ k : Nat, k ≤ xs.length ∧ t = .int .i64 (k : Int) ∧ xs.take k = ys.take k ∧ ∃ n, wr = w.drewN n) (fun t _ => xs.length - (intOf t).toNat)
    case atStart => exact ⟨0, Nat.zero_le _, rfl, by simp, 0, rfl⟩
    case round =>
      obtain ⟨k, hk, rfl, hv, n, rfl⟩ := hrel
      have HV := Lib.hid hv
      clear hv
      by_cases hlt : k < xs.length
      · have e2 := HN.out
        have hm2 : k < ys.length := by omega
        clear e2
        obtain ⟨b1, o1, rfl, hb1', hc1⟩ := ha.at_ (by omega)
        obtain ⟨b2, o2, rfl, hb2', hc2⟩ := hb.at_ (by omega)
        have hx := hc1 k (by omega)
        have hy := hc2 k (by omega)
        clear hc1 hc2 ha hb
        obtain ⟨x, ex⟩ : ∃ x, xs[k]?.getD 0 = x := ⟨_, rfl⟩
        obtain ⟨y, ey⟩ : ∃ y, ys[k]?.getD 0 = y := ⟨_, rfl⟩
        rw [ex] at hx
        rw [ey] at hy
        have EX := Lib.hid ex
        have EY := Lib.hid ey
        clear ex ey
        have i0 : (0 : Int) ≤ (k : Int) := by omega
        have i1 : (k : Int) < xs.length := by omega
        have i2 : (k : Int) < ys.length := by omega
        by_cases hxy : x = y
        · subst hxy
          go_wp2
          go_quiet (fail)
          go_wp2
          go_roundw
          case rel => exact ⟨k + 1, by omega, by go_num, take_ext HV.out hlt hm2 (by rw [EX.out, EY.out]), _, rfl⟩
          case measure => simp [intOf]; omega
        · have hxb : ((x : Int) != (y : Int)) = true := by simp; omega
          go_wp2
          go_quiet (fail)
          go_wp2
          go_ret
          refine ⟨?_, _, World.drewN_drewN _ _ _⟩
          have : xs ≠ ys := by rintro rfl; exact hxy (EX.out.symm.trans EY.out)
          simp [this]
      · have hk2 : ¬ ((k : Int) < (xs.length : Int)) := by omega
        go_wp2
        go_ret
        refine ⟨?_, n, rfl⟩
        have : xs = ys := by
          have e1 := HV.out
          rw [List.take_of_length_le (by omega), List.take_of_length_le (by rw [← HN.out]; omega)] at e1
          exact e1
        simp [this]
  · have hb1 : ((xs.length : Int) != (ys.length : Int)) = true := by simp; omega
    go_wp2_with fail
    go_ret
    refine ⟨?_, 0, rfl⟩
    have : xs ≠ ys := by rintro rfl; exact hne rfl
    simp [this]


/-- append onto a row with or without room -/
theorem append_any {w : World} {g len c : Nat} {A : Option Addr} {zs xs : List Nat} (hr : Row w g zs) (hz : Lb zs) (hl : len ≤ zs.length) (hm : zs.length ≤ 9223372036854775807) (hx : Lim w A c xs) (h0 : 0 < xs.length) (hk : xs.length ≤ 4) (hs : len ≤ 35184372087808) (ty : TypeId) :
    ∃ g' zs' w2, (Builtin.append_ #[22, 22] ty #[.slice (some ⟨g, 0, none⟩) len zs.length, .slice A xs.length c]).run Try.prog w = .ok (.slice (some ⟨g', 0, none⟩) (len + xs.length) zs'.length) w2 ∧ Row w2 g' zs' ∧ Lb zs' ∧ zs'.take (len + xs.length) = zs.take len ++ xs ∧ len + xs.length ≤ zs'.length ∧ zs'.length ≤ 9223372036854775807 ∧ g ≤ g' ∧ Below g w w2 := by
  obtain ⟨i0, hi, hz0, hz1, hz2⟩ := info_parts info_u32
  obtain ⟨ad, rfl, hsrc⟩ := cells_of_row hx h0
  have hll : (zs.take len ++ xs).length = len + xs.length := by rw [List.length_append, List.length_take]; omega
  by_cases hroom : len + xs.length ≤ zs.length
  · have h := run_append_room (P := Try.prog) w 22 ty 40 i0 Try.underlying22 hi g len zs.length (cellsOf zs) hr ad xs.length c (xs.map fun x => Value.int .u32 ((x : Nat) : Int)) (by simp [hz1]) hsrc (by intro v hv; obtain ⟨x, _, rfl⟩ := List.mem_map.1 hv; rfl) hroom (by simp [hz1, cellsOf]; omega)
    have e : ((cellsOf zs).toList.take (len * i0.size) ++ (xs.map fun x => Value.int .u32 ((x : Nat) : Int)) ++ (cellsOf zs).toList.drop (len * i0.size + (xs.map fun x => Value.int .u32 ((x : Nat) : Int)).length)).toArray = cellsOf (zs.take len ++ xs ++ zs.drop (len + xs.length)) := by
      simp [cellsOf, List.map_take, List.map_drop, hz1]
    rw [e] at h
    have hlen : (zs.take len ++ xs ++ zs.drop (len + xs.length)).length = zs.length := by simp; omega
    refine ⟨g, zs.take len ++ xs ++ zs.drop (len + xs.length), _, by rw [hlen]; exact h, setRow_heap w g _ _ 40 _ hr, ((hz.take _).append hx.lb).append (hz.drop _), ?_, by rw [hlen]; exact hroom, by rw [hlen]; exact hm, Nat.le_refl _, below_setRow (Below.refl _ _) (Nat.le_refl _) _⟩
    exact List.take_left' hll
  · have hold : ∀ j v, ((zs.take len).map fun x => Value.int .u32 ((x : Nat) : Int))[j]? = some v → w.cell? ((Addr.mk g 0 none).add j) = some v := by
      intro j v hj
      have hl2 : j < (zs.take len).length := by
        have := (List.getElem?_eq_some_iff.1 hj).1
        simpa using this
      have hl3 : j < zs.length := by rw [List.length_take] at hl2; omega
      have hl4 : j < len := by rw [List.length_take] at hl2; omega
      have hv : v = .int .u32 ((zs[j]?.getD 0 : Nat) : Int) := by
        rw [List.getElem?_map, List.getElem?_take_of_lt hl4, List.getElem?_eq_getElem hl3] at hj
        simp at hj
        rw [← hj, List.getElem?_eq_getElem hl3]; rfl
      have he : (Addr.mk g 0 none).add j = ⟨g, j, none⟩ := by
        unfold Addr.add
        split
        · next h0 => rw [h0]
        · simp
      rw [he, hv]
      exact hr.cell hl3
    have h := run_append_grow (P := Try.prog) w 22 ty 40 i0 (.int .u32 0) Try.underlying22 hi hz0 ⟨g, 0, none⟩ len zs.length ((zs.take len).map fun x => Value.int .u32 ((x : Nat) : Int)) (by simp [hz1]; omega) hold ad xs.length c (xs.map fun x => Value.int .u32 ((x : Nat) : Int)) (by simp [hz1]) hsrc
      (by omega) (by omega) (by rw [hz2]; exact growslice_fits_wide (by omega) (by omega))
    have hge := grownCap_ge w (len + xs.length) zs.length 40
    have hle := grownCap_le_maxLen w (len + xs.length) zs.length 40 (by simp only [maxLen]; omega)
    simp only [maxLen] at hle
    have hlen : (zs.take len ++ xs ++ zeros (grownCap w (len + xs.length) zs.length 40 - (len + xs.length))).length = grownCap w (len + xs.length) zs.length 40 := by rw [List.length_append, hll, zeros_length]; omega
    refine ⟨w.heap.size, zs.take len ++ xs ++ zeros (grownCap w (len + xs.length) zs.length 40 - (len + xs.length)), _, by rw [hlen]; exact h, ?_, ((hz.take _).append hx.lb).append (zeros_lb _), List.take_left' hll, by rw [hlen]; exact hge, by rw [hlen]; exact hle, Nat.le_of_lt hr.lt, ((Below.refl _ _).drew).alloc (Nat.le_of_lt hr.lt) _⟩
    have hb := heap_alloc_new w.drew (.cells (((zs.take len).map fun x => Value.int .u32 ((x : Nat) : Int)).toArray ++ (xs.map fun x => Value.int .u32 ((x : Nat) : Int)).toArray ++ Builtin.zeroCells (Value.int IntKind.u32 0).cells (grownCap w (len + xs.length) zs.length 40 - (len + xs.length))) 40)
    unfold Row
    rw [← cellsOf_append, ← cellsOf_append, ← zeroCells_u32]
    simpa [cellsOf] using hb
theorem wpList_appy {w : World} {ops : Array Oper} {rest : List Oper} {o : Oper} {a : Act} {Q : Exit → Act → World → Prop} (hgd : o.guard = none) (s x : Operand)
    (ho : o.op = .call { callee := .builtin .append, args := #[s, x], argTypes := #[22, 22] }) (g n k m c : Nat) (A : Option Addr) (zs xs : List Nat)
    (hs : a.eval s = .slice (some ⟨g, 0, none⟩) n k) (hx : a.eval x = .slice A m c) (hk : zs.length = k) (hn : xs.length = m) (hr : Row w g zs) (hz : Lb zs) (hl : n ≤ zs.length) (hm : zs.length ≤ 9223372036854775807) (hlim : Lim w A c xs) (h0 : 0 < xs.length) (h4 : xs.length ≤ 4) (hs' : n ≤ 35184372087808)
    (h : ∀ g' k' zs' w2, zs'.length = k' → Row w2 g' zs' → Lb zs' → zs'.take (n + m) = zs.take n ++ xs → n + m ≤ zs'.length → zs'.length ≤ 9223372036854775807 → g ≤ g' → Below g w w2 → wpList Try.prog ops Q rest (a.put o.dst (.slice (some ⟨g', 0, none⟩) (n + m) k')) w2) : wpList Try.prog ops Q (o :: rest) a w := by
  subst hk hn
  refine wpList_plain hgd fun K hK => ?_
  obtain ⟨g', zs', w2, hrun, h1, h2, h3, h4, h5, h6, h7⟩ := append_any hr hz hl hm hlim h0 h4 hs' o.type
  unfold Oper.wp execOp
  simp only [ho, resolve, invoke, builtin, Sem.run_bind, Sem.run_pure, Result.andThen_ok, List.map_toArray, List.map_cons, List.map_nil, hs, hx, hrun]
  exact hK _ _ (h g' zs'.length zs' w2 rfl h1 h2 h3 h4 h5 h6 h7)

/-- a copy with three limbs 7 behind it -/
def Spared (w : World) (g : Nat) (xs : List Nat) : Prop := ∃ zs, Row w g zs ∧ Lb zs ∧ zs.take (xs.length + 3) = xs ++ [7, 7, 7] ∧ xs.length + 3 ≤ zs.length
theorem Spared.below {w w' : World} {B g : Nat} {xs : List Nat} (h : Spared w g xs) (hb : Below B w w') (hg : g < B) : Spared w' g xs := by
  obtain ⟨zs, h1, h2⟩ := h
  exact ⟨zs, h1.below hb hg, h2⟩
theorem Spared.get {w : World} {g : Nat} {xs : List Nat} (h : Spared w g xs) (k : Nat) (hk : k < xs.length + 3) : w.cell? ⟨g, k, none⟩ = some (.int .u32 (((xs ++ [7, 7, 7])[k]?.getD 0 : Nat) : Int)) := by
  obtain ⟨zs, h1, _, h3, h4⟩ := h
  rw [h1.cell (by omega), ← h3, List.getElem?_take_of_lt hk]
theorem Spared.lim {w : World} {g : Nat} {xs : List Nat} (h : Spared w g xs) (hs : xs.length ≤ 35184372087808) : Lim w (some ⟨g, 0, none⟩) (xs.length + 3) xs := by
  have hg := fun k hk => h.get k hk
  obtain ⟨zs, h1, h2, h3, h4⟩ := h
  have hx : Lb xs := by
    intro x hx
    have : x ∈ zs.take (xs.length + 3) := by rw [h3]; exact List.mem_append_left _ hx
    exact h2 x (List.mem_of_mem_take this)
  refine ⟨hx, by omega, by omega, fun _ => ⟨g, 0, rfl, h1.lt, fun k hk => ?_⟩⟩
  rw [Nat.zero_add, hg k (by omega), List.getElem?_append_left hk]
theorem Spared.lt {w : World} {g : Nat} {xs : List Nat} (h : Spared w g xs) : g < w.heap.size := by
  obtain ⟨zs, h1, _⟩ := h
  exact h1.lt

set_option maxRecDepth 100000 in
set_option maxHeartbeats 1000000 in
theorem Spare_c (A : Option Addr) (xs : List Nat) (c : Nat) (w : World) (h0 : Lim w A c xs) (k0 : xs.length ≤ 35184372087808) :
    Calls Try.prog 17 #[.slice A xs.length c, .int .u32 7] w fun e w' => ∃ g, e = .returned (.slice (some ⟨g, 0, none⟩) xs.length (xs.length + 3)) ∧ w.heap.size ≤ g ∧ Spared w' g xs ∧ Below w.heap.size w w' := by
  have b0 := bel1 w (.cells (cellsOf []) 40)
  have hr0 := Row.new w []
  go_enter Try.func17, Try.ntmps17
  go_wp2_with (first
    | (at_builtin; refine wpList_appf rfl (.tmp 6) (.tmp 7) rfl w.heap.size xs.length c A xs rfl rfl rfl hr0 (h0.below b0) k0 ?_; intro g1 m1 zs1 w1 hm1 hr1 hz1 ht1 hn1 hx1 hg1 b1; have hm1' := Lib.hid hm1; clear hm1; have ht1' := Lib.hid ht1; clear ht1)
    | (at_builtin; refine wpList_appy rfl (.tmp 9) (.tmp 13) rfl g1 xs.length m1 3 3 (some ⟨w1.heap.size, 0, none⟩) zs1 [7, 7, 7] rfl rfl hm1'.out rfl (hr1.alloc _) hz1 hn1 hx1 (lit1 w1 [7, 7, 7] (Lb_lit _ (by decide)) (by decide)) (by decide) (by decide) k0 ?_; intro g2 m2 zs2 w2 hm2 hr2 hz2 ht2 hn2 hx2 hg2 b2; have hm2' := Lib.hid hm2; clear hm2; have ht2' := Lib.hid ht2; clear ht2; have i1 : xs.length + 3 ≤ m2 := by rw [← hm2'.out]; exact hn2))
  go_ret
  refine ⟨g2, rfl, Nat.le_trans hg1 hg2, ⟨zs2, hr2, hz2, by rw [ht2'.out, ht1'.out], hn2⟩, ?_⟩
  have q1 : Below w.heap.size w w1 := b0.trans (b1.mono b0.size)
  exact (q1.alloc q1.size _).trans (b2.mono hg1)

/-- slices that may be written, in blocks from lo on -/
def Wr (lo : Nat) (w : World) (A : Option Addr) (n : Nat) : Prop :=
  n ≤ 9223372036854775807 ∧ (0 < n → ∃ b off, A = some ⟨b, off, none⟩ ∧ lo ≤ b ∧ b < w.heap.size ∧ ∀ k, k < n → (∃ v : Int, w.cell? ⟨b, off + k, none⟩ = some (.int .u32 v)) ∧ w.frozen? ⟨b, off + k, none⟩ = false)
theorem Wr.below {lo : Nat} {w w' : World} {A : Option Addr} {n : Nat} (h : Wr lo w A n) (hb : Below w.heap.size w w') : Wr lo w' A n := ⟨h.1, fun h0 => by
  obtain ⟨b, off, e, hl, hlt, hc⟩ := h.2 h0
  exact ⟨b, off, e, hl, Nat.lt_of_lt_of_le hlt hb.size, fun k hk => ⟨by obtain ⟨v, hv⟩ := (hc k hk).1; exact ⟨v, (hb.cell (p := ⟨b, off + k, none⟩) hlt).trans hv⟩, (hb.frozen (p := ⟨b, off + k, none⟩) hlt).trans (hc k hk).2⟩⟩⟩
theorem Wr.mono {lo lo' : Nat} {w : World} {A : Option Addr} {n : Nat} (h : Wr lo w A n) (hl : lo' ≤ lo) : Wr lo' w A n := ⟨h.1, fun h0 => by
  obtain ⟨b, off, e, h1, h2⟩ := h.2 h0
  exact ⟨b, off, e, Nat.le_trans hl h1, h2⟩⟩
theorem Own.wr {lo : Nat} {w : World} {A : Option Addr} {c : Nat} {xs : List Nat} (h : Own lo w A c xs) : Wr lo w A xs.length := ⟨Nat.le_trans h.cap h.max, fun h0 => by
  obtain ⟨b, off, e, hl, hlt, hc⟩ := h.cells h0
  exact ⟨b, off, e, hl, hlt, fun k hk => ⟨⟨_, (hc k hk).1⟩, (hc k hk).2⟩⟩⟩
theorem Wr.nil (lo : Nat) (w : World) (A : Option Addr) : Wr lo w A 0 := ⟨by omega, fun h => absurd h (by omega)⟩
/-- limbs in the blocks from lo on and ahead of hi were overwritten, nothing else -/
structure Wiped (lo hi : Nat) (w w' : World) : Prop where
  os : w'.os = w.os
  tape : w'.tape = w.tape
  output : w'.output = w.output
  size : w'.heap.size = w.heap.size
  block : ∀ k, k < lo ∨ hi ≤ k → w'.heap[k]? = w.heap[k]?
  ints : ∀ p v, w.cell? p = some (.int .u32 v) → ∃ u, w'.cell? p = some (.int .u32 u)
  frz : ∀ p, w'.frozen? p = w.frozen? p
theorem Wiped.refl (lo hi : Nat) (w : World) : Wiped lo hi w w := ⟨rfl, rfl, rfl, rfl, fun _ _ => rfl, fun _ v h => ⟨v, h⟩, fun _ => rfl⟩
theorem Wiped.trans {lo hi : Nat} {w w' w'' : World} (h : Wiped lo hi w w') (h2 : Wiped lo hi w' w'') : Wiped lo hi w w'' :=
  ⟨h2.os.trans h.os, h2.tape.trans h.tape, h2.output.trans h.output, h2.size.trans h.size, fun k hk => (h2.block k hk).trans (h.block k hk), fun p v hp => by obtain ⟨u, hu⟩ := h.ints p v hp; exact h2.ints p u hu, fun p => (h2.frz p).trans (h.frz p)⟩
theorem Wiped.set {lo hi : Nat} {w w' : World} (h : Wiped lo hi w w') {p : Addr} (h1 : lo ≤ p.block) (h2 : p.block < hi) {v : Int} (hp : w'.cell? p = some (.int .u32 v)) (u : Int) : Wiped lo hi w (w'.setCell p (.int .u32 u)) :=
  h.trans ⟨rfl, World.tape_setCell _ _ _, rfl, World.size_setCell _ _ _, fun k hk => Below.heap_setCell w' p _ k (by omega), fun q v' hq => by
    by_cases e : p = q
    · subst e; exact ⟨u, World.cell?_setCell_same _ _ _ hp⟩
    · exact ⟨v', by rw [World.cell?_setCell_other _ _ _ _ e]; exact hq⟩, fun q => World.frozen?_setCell _ _ _ _⟩
theorem Wiped.wr {lo hi l : Nat} {w w' : World} (h : Wiped lo hi w w') {A : Option Addr} {n : Nat} (hr : Wr l w A n) : Wr l w' A n := ⟨hr.1, fun h0 => by
  obtain ⟨b, off, e, hl, hlt, hc⟩ := hr.2 h0
  exact ⟨b, off, e, hl, by rw [h.size]; exact hlt, fun k hk => ⟨by obtain ⟨v, hv⟩ := (hc k hk).1; exact h.ints _ _ hv, (h.frz _).trans (hc k hk).2⟩⟩⟩
theorem Wiped.below {lo hi : Nat} {w w' : World} (h : Wiped lo hi w w') : Below lo w w' := ⟨h.os, h.tape, h.output, Nat.le_of_eq h.size.symm, fun k hk => h.block k (.inl hk)⟩

set_option maxRecDepth 100000 in
set_option maxHeartbeats 1000000 in
theorem Wipe_c (lo : Nat) (A : Option Addr) (n c : Nat) (w : World) (h : Wr lo w A n) (hi : Nat) (hhi : 0 < n → ∃ ad, A = some ad ∧ ad.block < hi) :
    Calls Try.prog 29 #[.slice A n c, .int .u32 5] w fun e w' => e = .returned (.tuple #[]) ∧ Wiped lo hi w w' := by
  have hn := h.1
  go_enter Try.func29, Try.ntmps29
  go_wp2_with fail
  go_loopw [4] (fun t wr => ∃ k : Nat, k ≤ n ∧ t = .int .i64 (k : Int) ∧ Wiped lo hi w wr) (fun t _ => n - (intOf t).toNat)
  case atStart => exact ⟨0, Nat.zero_le _, rfl, Wiped.refl _ _ _⟩
  case round =>
    obtain ⟨k, hk, rfl, hw⟩ := hrel
    by_cases hlt : k < n
    · have hwr := hw.wr h
      obtain ⟨b, off, rfl, hlo, hb, hc⟩ := hwr.2 (by omega)
      obtain ⟨⟨v, hv⟩, hf⟩ := hc k hlt
      obtain ⟨ad, e, had⟩ := hhi (by omega)
      injection e with e
      subst e
      clear hc hwr
      have i0 : (0 : Int) ≤ (k : Int) := by omega
      have i1 : (k : Int) < n := by omega
      go_wp2
      go_roundw
      case rel => exact ⟨k + 1, by omega, by go_num, hw.set (p := ⟨b, off + k, none⟩) hlo had hv 5⟩
      case measure => simp [intOf]; omega
    · obtain rfl : k = n := by omega
      go_wp2
      exact bodyPost_end (v := .tuple #[]) (by simp [results, Try.results29, go_sem]) rfl ⟨rfl, hw⟩
theorem Kept_c (A : Option Addr) (xs : List Nat) (c g : Nat) (w : World) (h : Spared w g xs) (h0 : Lim w A c xs) (k0 : xs.length ≤ 35184372087808) :
    Calls Try.prog 34 #[.slice (some ⟨g, 0, none⟩) xs.length (xs.length + 3), .slice A xs.length c, .int .u32 7] w (RetB w true) := by
  have hx := h.lim k0
  have c0 := h.get xs.length (by omega)
  have c1 := h.get (xs.length + 1) (by omega)
  have c2 := h.get (xs.length + 2) (by omega)
  rw [List.getElem?_append_right (by omega)] at c0 c1 c2
  simp at c0 c1 c2
  go_enter Try.func34, Try.ntmps34
  go_wp2_with fail
  refine (hEqual_c _ A xs xs _ c w hx h0 (by omega) (by omega)).mono ?_
  rintro e w1 ⟨rfl, k, rfl⟩
  rw [decide_eq_true rfl]
  clear hx h
  go_wp2_with fail
  go_ret
  exact ⟨rfl, below_drewN (Below.refl _ _) k⟩

/-- what a function returns whose results are looked at as memory alone -/
def RetW1 (w : World) (e : Ending) (w' : World) : Prop := ∃ A n c, e = .returned (.slice A n c) ∧ Wr w.heap.size w' A n ∧ Below w.heap.size w w'
def RetW2 (w : World) (e : Ending) (w' : World) : Prop := ∃ A n c b, e = .returned (.tuple #[.slice A n c, .bool b]) ∧ Wr w.heap.size w' A n ∧ Below w.heap.size w w'
def RetW3 (w : World) (e : Ending) (w' : World) : Prop := ∃ A n c B m d b, e = .returned (.tuple #[.slice A n c, .slice B m d, .bool b]) ∧ Wr w.heap.size w' A n ∧ Wr w.heap.size w' B m ∧ Below w.heap.size w w'
theorem RetNat.w1 {w w' : World} {n : Nat} {e : Ending} (h : RetNat w n e w') : RetW1 w e w' := by
  obtain ⟨A, c, rfl, h1, h2⟩ := h
  exact ⟨A, _, c, rfl, h1.wr, h2⟩
section
variable (A B : Option Addr) (xs ys : List Nat) (c d : Nat) (w : World) (ha : Lim w A c xs) (hb : Lim w B d ys) (hs : xs.length ≤ 35184372087808) (ht : ys.length ≤ 35184372087808)
theorem DivMod_any (ha : Lim w A c xs) (hb : Lim w B d ys) (hs : xs.length ≤ 35184372087808) : Calls Try.prog 95 #[.slice A xs.length c, .slice B ys.length d] w (RetW3 w) := by
  by_cases h0 : val ys = 0
  · refine (DivMod_zero A B xs ys c d w ha hb h0).mono ?_
    rintro e w' ⟨rfl, rfl⟩
    exact ⟨_, _, _, _, _, _, _, rfl, Wr.nil _ _ _, Wr.nil _ _ _, Below.refl _ _⟩
  · refine (DivMod_c A B xs ys c d w ha hb (by omega) h0).mono ?_
    rintro e w' ⟨A1, c1, A2, c2, rfl, r1, r2, b1⟩
    exact ⟨_, _, _, _, _, _, _, rfl, r1.wr, r2.wr, b1⟩
theorem Sub_any (ha : Lim w A c xs) (hb : Lim w B d ys) (hs : xs.length ≤ 35184372087808) : Calls Try.prog 99 #[.slice A xs.length c, .slice B ys.length d] w (RetW2 w) := by
  by_cases h0 : val xs < val ys
  · refine (SubN_n A B xs ys c d w _ _ ha hb rfl rfl h0).mono ?_
    rintro e w' ⟨rfl, b1⟩
    exact ⟨_, _, _, _, rfl, Wr.nil _ _ _, b1⟩
  · refine (Sub_ok A B xs ys c d w ha hb (by omega) (by omega)).mono ?_
    rintro e w' ⟨A1, c1, rfl, r1, b1⟩
    exact ⟨_, _, _, _, rfl, r1.wr, b1⟩
theorem ShiftRight_any (ha : Lim w A c xs) (hs : xs.length ≤ 35184372087808) : Calls Try.prog 124 #[.slice A xs.length c, .int .i64 0] w (RetW2 w) := by
  refine (ShiftRight_c A xs c 0 w ha (by omega) (by omega)).mono ?_
  rintro e w' ⟨A1, c1, rfl, r1, b1⟩
  exact ⟨_, _, _, _, rfl, r1.wr, b1⟩
end

/- Results of package integer looked at as memory alone; a row of integers whose limbs are wiped. -/

theorem Row.store {w : World} {g N i : Nat} {zs : List Nat} {u v : Value} (h : Row w g zs) (hp : w.cell? ⟨N, i, none⟩ = some v) (hv : ∀ z, v ≠ .int .u32 z) : Row (w.setCell ⟨N, i, none⟩ u) g zs := by
  by_cases e : g = N
  · subst e
    rw [cell_of_row w g i _ _ (0, 0) h] at hp
    exfalso
    simp only [cellsOf] at hp
    rw [List.getElem?_toArray, List.getElem?_map] at hp
    cases hz : zs[i]? with
    | none => rw [hz] at hp; simp at hp
    | some z => rw [hz] at hp; simp at hp; exact hv _ hp.symm
  · exact h.far e u
theorem Spared.keep {w w' : World} {g : Nat} {xs : List Nat} (h : Spared w g xs) (hb : Below w.heap.size w w') : Spared w' g xs := h.below hb h.lt
theorem Spared.store_s {w : World} {g N i : Nat} {xs : List Nat} {u : Value} (h : Spared w g xs) (hp : w.cell? ⟨N, i, none⟩ = some (.slice none 0 0)) : Spared (w.setCell ⟨N, i, none⟩ u) g xs := by
  obtain ⟨zs, h1, h2⟩ := h
  exact ⟨zs, h1.store hp (by intro z e; cases e), h2⟩
theorem Spared.store_b {w : World} {g N i : Nat} {xs : List Nat} {u : Value} (h : Spared w g xs) (hp : w.cell? ⟨N, i, none⟩ = some (.bool false)) : Spared (w.setCell ⟨N, i, none⟩ u) g xs := by
  obtain ⟨zs, h1, h2⟩ := h
  exact ⟨zs, h1.store hp (by intro z e; cases e), h2⟩

/-- an integer whose limbs may be written -/
def RetIW (w : World) (e : Ending) (w' : World) : Prop := ∃ b A n c, e = .returned (.agg #[.bool b, .slice A n c]) ∧ Wr w.heap.size w' A n ∧ Below w.heap.size w w'
theorem RetInt.iw {w w' : World} {n : Int} {e : Ending} (h : RetInt w n e w') : RetIW w e w' := by
  obtain ⟨A, c, rfl, h1, h2⟩ := h
  exact ⟨_, A, _, c, rfl, h1.wr, h2⟩
def RetIW2 (w : World) (e : Ending) (w' : World) : Prop := ∃ b A n c b' A' n' c' o, e = .returned (.tuple #[.agg #[.bool b, .slice A n c], .agg #[.bool b', .slice A' n' c'], .bool o]) ∧ Wr w.heap.size w' A n ∧ Wr w.heap.size w' A' n' ∧ Below w.heap.size w w'
section
variable (p q : Bool) (A B : Option Addr) (xs ys : List Nat) (c d : Nat) (w : World)
theorem INorm_any (ha : Lim w A c xs) (hs : xs.length ≤ 35184372087808) : Calls Try.prog 92 #[.agg #[.bool p, .slice A xs.length c]] w (RetIW w) :=
  (INorm_c p A xs c w ha (by omega)).mono fun _ _ h => h.iw
theorem INeg_any (ha : Lim w A c xs) (hs : xs.length ≤ 35184372087808) : Calls Try.prog 60 #[.agg #[.bool p, .slice A xs.length c]] w (RetIW w) :=
  (INeg_n p A xs c w _ _ 35184372087808 ha hs rfl rfl (by omega)).mono fun _ _ h => h.iw
theorem IAdd_any (ha : Lim w A c xs) (hb : Lim w B d ys) (hs : xs.length ≤ 35184372087808) (ht : ys.length ≤ 35184372087808) : Calls Try.prog 62 #[.agg #[.bool p, .slice A xs.length c], .agg #[.bool q, .slice B ys.length d]] w (RetIW w) :=
  (IAdd_n p q A B xs ys c d w _ _ _ 35184372087808 35184372087808 ha hb hs ht rfl rfl rfl (by omega) (by omega)).mono fun _ _ h => h.iw
theorem ISub_any (ha : Lim w A c xs) (hb : Lim w B d ys) (hs : xs.length ≤ 35184372087808) (ht : ys.length ≤ 35184372087808) : Calls Try.prog 87 #[.agg #[.bool p, .slice A xs.length c], .agg #[.bool q, .slice B ys.length d]] w (RetIW w) :=
  (ISub_n p q A B xs ys c d w _ _ _ 35184372087808 35184372087808 ha hb hs ht rfl rfl rfl (by omega) (by omega)).mono fun _ _ h => h.iw
theorem IMul_any (ha : Lim w A c xs) (hb : Lim w B d ys) (hs : xs.length ≤ 35184372087808) (ht : ys.length ≤ 35184372087808) : Calls Try.prog 63 #[.agg #[.bool p, .slice A xs.length c], .agg #[.bool q, .slice B ys.length d]] w (RetIW w) :=
  (IMul_n p q A B xs ys c d w _ _ _ 35184372087808 35184372087808 ha hb hs ht rfl rfl rfl (by omega)).mono fun _ _ h => h.iw
theorem IDivMod_any (ha : Lim w A c xs) (hb : Lim w B d ys) (hs : xs.length ≤ 35184372087808) (ht : ys.length ≤ 35184372087808) : Calls Try.prog 82 #[.agg #[.bool p, .slice A xs.length c], .agg #[.bool q, .slice B ys.length d]] w (RetIW2 w) := by
  by_cases h0 : iv q ys = 0
  · refine (IDivMod0_n p q A B xs ys c d w _ ha hb rfl h0).mono ?_
    rintro e w' ⟨rfl, b⟩
    exact ⟨_, _, _, _, _, _, _, _, _, rfl, Wr.nil _ _ _, Wr.nil _ _ _, b⟩
  · refine (IDivMod_n p q A B xs ys c d w _ _ _ _ 35184372087808 35184372087808 ha hb hs ht rfl rfl h0 rfl rfl (by omega) (by omega)).mono ?_
    rintro e w' ⟨A1, c1, A2, c2, rfl, r1, r2, b⟩
    exact ⟨_, _, _, _, _, _, _, _, _, rfl, r1.wr, r2.wr, b⟩
end
theorem boxes2i (w : World) (p q : Bool) (u v : Value) :
    ∃ W, (w.alloc (.cells #[.bool p, u] 24)).alloc (.cells #[.bool q, v] 24) = W ∧ Below w.heap.size w W ∧ IntAt W w.heap.size p u ∧ IntAt W (w.heap.size + 1) q v := by
  refine ⟨_, rfl, ((Below.refl _ _).alloc (Nat.le_refl _) _).alloc (by simp) _, ?_, ?_⟩
  · refine ⟨?_, ?_, ?_, ?_⟩ <;> go_simp
  · refine ⟨?_, ?_, ?_, ?_⟩ <;> go_simp

/-- row g holds integers from place k on, whose limbs may be written -/
def OutsI (lo g len : Nat) (w : World) (k : Nat) : Prop :=
  ∀ i, k ≤ i → i < len → ∃ b A n c, w.cell? ⟨g, 2 * i, none⟩ = some (.bool b) ∧ w.cell? ⟨g, 2 * i + 1, none⟩ = some (.slice A n c) ∧ Wr lo w A n ∧ (0 < n → ∃ ad, A = some ad ∧ ad.block < g)
theorem OutsI.wiped {lo g len k : Nat} {w w' : World} (h : OutsI lo g len w k) (hw : Wiped lo g w w') : OutsI lo g len w' (k + 1) := by
  intro i h1 h2
  obtain ⟨b, A, n, c, hc0, hc, hr, ha⟩ := h i (by omega) h2
  refine ⟨b, A, n, c, ?_, ?_, hw.wr hr, ha⟩
  · rw [← hc0]
    unfold World.cell?
    rw [hw.block g (.inr (Nat.le_refl _))]
  · rw [← hc]
    unfold World.cell?
    rw [hw.block g (.inr (Nat.le_refl _))]
theorem OutsI.alloc {lo g len k : Nat} {w : World} (h : OutsI lo g len w k) (hg : g < w.heap.size) (o : Obj) : OutsI lo g len (w.alloc o) k := by
  intro i h1 h2
  obtain ⟨b, A, n, c, hc0, hc, hr, ha⟩ := h i h1 h2
  exact ⟨b, A, n, c, cellB (bel1 w o) hg hc0, cellB (bel1 w o) hg hc, hr.below (bel1 w o), ha⟩
/-- a literal of integers -/
theorem outsI_lit (w : World) (lo : Nat) (L : List (Bool × Option Addr × Nat × Nat)) (ty : TypeId) (h : ∀ e ∈ L, Wr lo w e.2.1 e.2.2.1) :
    OutsI lo w.heap.size L.length (w.alloc (.cells (L.flatMap fun e => [Value.bool e.1, Value.slice e.2.1 e.2.2.1 e.2.2.2]).toArray ty)) 0 := by
  intro i _ hi
  have hm := List.getElem_mem hi
  have hfl : ∀ (L : List (Bool × Option Addr × Nat × Nat)) (i : Nat) (hi : i < L.length), (L.flatMap fun e => [Value.bool e.1, Value.slice e.2.1 e.2.2.1 e.2.2.2])[2 * i]? = some (.bool L[i].1) ∧ (L.flatMap fun e => [Value.bool e.1, Value.slice e.2.1 e.2.2.1 e.2.2.2])[2 * i + 1]? = some (.slice L[i].2.1 L[i].2.2.1 L[i].2.2.2) := by
    intro L
    induction L with
    | nil => intro i hi; simp at hi
    | cons e L ih =>
      intro i hi
      cases i with
      | zero => simp
      | succ i =>
        have h1 := ih i (by simpa using hi)
        have e1 : 2 * (i + 1) = 2 * i + 1 + 1 := by omega
        rw [e1]
        simpa using h1
  obtain ⟨h1, h2⟩ := hfl L i hi
  refine ⟨L[i].1, L[i].2.1, L[i].2.2.1, L[i].2.2.2, ?_, ?_, (h _ hm).below (bel1 _ _), fun h0 => ?_⟩
  · rw [cell_of_row _ _ (2 * i) _ _ _ (heap_alloc_new w _)]
    simpa using h1
  · rw [cell_of_row _ _ (2 * i + 1) _ _ _ (heap_alloc_new w _)]
    simpa using h2
  · obtain ⟨b, off, e, _, hb, _⟩ := (h _ hm).2 h0
    exact ⟨_, e, hb⟩

end Go.Proofs.Ytaeidephegnkdaa
