/- Contracts of the reference of layer 1: shifts. -/
import Derived.Test.YtkoehkadhjjmoaaRefH
import Derived.Test.YtkoehkadhjjmoaaNatQ
import Derived.Deep.DeepAppendWide
namespace Go.Proofs.Ytkoehkadhjjmoaa
open Go.RowKit Gm

/-- append onto a full row -/
theorem append_row {w1 : World} {g c : Nat} {A : Option Addr} {zs xs : List Nat} (hr : Row w1 g zs) (hz : Lb zs) (hx : Lim w1 A c xs) (hk : zs.length ≤ 2048) (hs : xs.length ≤ 35184372087808) (ty : TypeId) :
    ∃ A' c' w2, (Builtin.append_ #[22, 22] ty #[.slice (some ⟨g, 0, none⟩) zs.length zs.length, .slice A xs.length c]).run Try.prog w1 = .ok (.slice A' (zs.length + xs.length) c') w2 ∧ Lim w2 A' c' (zs ++ xs) ∧ Below w1.heap.size w1 w2 := by
  obtain ⟨i0, hi, hz0, hz1, hz2⟩ := info_parts info_u32
  rcases Nat.eq_zero_or_pos xs.length with h0 | h0
  · obtain rfl : xs = [] := List.eq_nil_of_length_eq_zero h0
    refine ⟨some ⟨g, 0, none⟩, zs.length, w1, ?_, by rw [List.append_nil]; exact hr.lim hz (by omega), Below.refl _ _⟩
    cases A <;> simp [Builtin.append_, run_underlying Try.underlying22, sizeOf, typeInfo, hi, Builtin.lenOf, Builtin.firstCells, loadCells, loadCellsFrom, storeCells]
  · obtain ⟨ad, rfl, hsrc⟩ := cells_of_row hx h0
    have hold : ∀ j v, (zs.map fun x => Value.int .u32 ((x : Nat) : Int))[j]? = some v → w1.cell? ((Addr.mk g 0 none).add j) = some v := by
      intro j v hj
      have hl : j < zs.length := by
        have := (List.getElem?_eq_some_iff.1 hj).1
        simpa using this
      have hv : v = .int .u32 ((zs[j]?.getD 0 : Nat) : Int) := by
        rw [List.getElem?_map, List.getElem?_eq_getElem hl] at hj
        simp at hj
        rw [← hj, List.getElem?_eq_getElem hl]; rfl
      have he : (Addr.mk g 0 none).add j = ⟨g, j, none⟩ := by
        unfold Addr.add
        split
        · next h0 => rw [h0]
        · simp
      rw [he, hv]
      exact hr.cell hl
    have h := run_append_grow (P := Try.prog) w1 22 ty 54 i0 (.int .u32 0) Try.underlying22 hi hz0 ⟨g, 0, none⟩ zs.length zs.length (zs.map fun x => Value.int .u32 ((x : Nat) : Int)) (by simp [hz1]) hold ad xs.length c (xs.map fun x => Value.int .u32 ((x : Nat) : Int)) (by simp [hz1]) hsrc
      (by omega) (by omega) (by rw [hz2]; exact growslice_fits_wide (by omega) (by omega))
    refine ⟨_, _, _, h, ?_, ?_⟩
    · have hge := grownCap_ge w1 (zs.length + xs.length) zs.length 54
      refine ⟨hz.append hx.lb, by rw [List.length_append]; exact hge, grownCap_le_maxLen w1 (zs.length + xs.length) zs.length 54 (by simp only [maxLen]; omega), fun _ => ⟨w1.heap.size, 0, rfl, by simp, fun k hk2 => ?_⟩⟩
      rw [Nat.zero_add]
      have hb := heap_alloc_new w1.drew (.cells ((zs.map fun x => Value.int .u32 ((x : Nat) : Int)).toArray ++ (xs.map fun x => Value.int .u32 ((x : Nat) : Int)).toArray ++ Builtin.zeroCells (Value.int IntKind.u32 0).cells (grownCap w1 (zs.length + xs.length) zs.length 54 - (zs.length + xs.length))) 54)
      have e := cell_of_row _ _ k _ _ _ hb
      refine e.trans ?_
      rw [List.length_append] at hk2
      rw [Array.getElem?_append_left (by simp; omega)]
      have e2 : ((zs.map fun x => Value.int .u32 ((x : Nat) : Int)).toArray ++ (xs.map fun x => Value.int .u32 ((x : Nat) : Int)).toArray) = ((zs ++ xs).map fun x => Value.int .u32 ((x : Nat) : Int)).toArray := by simp
      rw [e2]
      rw [List.getElem?_toArray, List.getElem?_map, List.getElem?_eq_getElem (show k < (zs ++ xs).length by rw [List.length_append]; omega)]
      rfl
    · exact ((Below.refl _ _).drew).alloc (Nat.le_refl _) _
theorem wpList_appr {w : World} {ops : Array Oper} {rest : List Oper} {o : Oper} {a : Act} {Q : Exit → Act → World → Prop} (hgd : o.guard = none) (s x : Operand)
    (ho : o.op = .call { callee := .builtin .append, args := #[s, x], argTypes := #[22, 22] }) (g k n c : Nat) (A : Option Addr) (zs xs : List Nat)
    (hs : a.eval s = .slice (some ⟨g, 0, none⟩) k k) (hx : a.eval x = .slice A n c) (hk : zs.length = k) (hn : xs.length = n) (hr : Row w g zs) (hz : Lb zs) (hl : Lim w A c xs) (hm1 : zs.length ≤ 2048) (hm : xs.length ≤ 35184372087808)
    (h : ∀ A' c' w2, Lim w2 A' c' (zs ++ xs) → Below w.heap.size w w2 → wpList Try.prog ops Q rest (a.put o.dst (.slice A' (k + n) c')) w2) : wpList Try.prog ops Q (o :: rest) a w := by
  subst hk hn
  refine wpList_plain hgd fun K hK => ?_
  obtain ⟨A', c', w2, hrun, h1, h2⟩ := append_row hr hz hl hm1 hm o.type
  unfold Oper.wp execOp
  simp only [ho, resolve, invoke, builtin, Sem.run_bind, Sem.run_pure, Result.andThen_ok, List.map_toArray, List.map_cons, List.map_nil, hs, hx, hrun]
  exact hK _ _ (h A' c' w2 h1 h2)

set_option maxHeartbeats 1000000 in
theorem rShiftLeft_no (A : Option Addr) (xs : List Nat) (c : Nat) (n : Int) (w : World) (hn : n < 0 ∨ 65536 < n) :
    Calls Try.prog 73 #[.slice A xs.length c, .int .i64 n] w (RetNoB w) := by
  rcases hn with h | h
  · go_enter Try.func73, Try.ntmps73
    go_wp2
    go_ret2
    exact ⟨rfl, Below.refl _ _⟩
  · have h' : ¬ n < 0 := by omega
    go_enter Try.func73, Try.ntmps73
    go_wp2
    go_ret2
    exact ⟨rfl, Below.refl _ _⟩
set_option maxHeartbeats 400000 in
theorem rShiftRight_no (A : Option Addr) (xs : List Nat) (c : Nat) (n : Int) (w : World) (hn : n < 0) :
    Calls Try.prog 74 #[.slice A xs.length c, .int .i64 n] w (RetNoB w) := by
  go_enter Try.func74, Try.ntmps74
  go_wp2
  go_ret2
  exact ⟨rfl, Below.refl _ _⟩

set_option maxHeartbeats 2000000 in
theorem rShiftLeft_c (A : Option Addr) (xs : List Nat) (c n : Nat) (w : World) (ha : Lim w A c xs) (hs : xs.length ≤ 35184372087808) (hn : n ≤ 65536) :
    Calls Try.prog 73 #[.slice A xs.length c, .int .i64 (n : Int)] w (RetNatOk w (val xs * 2 ^ n)) := by
  obtain ⟨d, hd⟩ : ∃ d, n / 32 = d := ⟨_, rfl⟩
  obtain ⟨s, hsm⟩ : ∃ s, n % 32 = s := ⟨_, rfl⟩
  have e1 : (n : Int) / 32 = (d : Int) := by omega
  have e2 : (n : Int) % 32 = (s : Int) := by omega
  have e3 : (n : Int).tmod 32 = (s : Int) := by rw [Int.tmod_eq_emod_of_nonneg (by omega)]; exact e2
  have h32 : s < 32 := by omega
  have hd2 : d ≤ 2048 := by omega
  have hv := shl_all (val xs) n d s hd hsm
  have HV := Lib.hid hv
  have hmk := mk_run (d : Int) d rfl (by omega)
  have b0 := bel1 w (.cells (cellsOf (zeros d)) 54)
  have hr0 := Row.new w (zeros d)
  clear hd hsm hv
  go_enter Try.func73, Try.ntmps73
  go_wp2_with (at_builtin; refine wpList_appr rfl (.tmp 17) (.tmp 18) rfl w.heap.size d xs.length c A (zeros d) xs rfl rfl (zeros_length d) rfl hr0 (zeros_lb d) (ha.below b0) (by rw [zeros_length]; exact hd2) hs ?_; intro A1 c1 w1 hl1 b1)
  have hval : val (zeros d ++ xs) = Ba ^ d * val xs := by rw [val_append, zeros_val, zeros_length, Nat.zero_add]
  have hbel : Below w.heap.size w w1 := b0.trans (b1.mono b0.size)
  have hlen : (zeros d ++ xs).length = d + xs.length := by rw [List.length_append, zeros_length]
  have HVAL := Lib.hid hval
  have HLEN := Lib.hid hlen
  clear hval hlen hmk b0 b1 hr0
  go_loopw [6, 7] (fun t i wr => ∃ (k c' : Nat) (A' : Option Addr) (ys : List Nat), k ≤ s ∧ i = .int .i64 k ∧ t = .slice A' ys.length c' ∧ Lim wr A' c' ys ∧ ys.length ≤ 35184372090000 + k ∧ Below w.heap.size w wr ∧ Hid (val ys = Ba ^ d * (val xs * 2 ^ k))) (fun _ i _ => s - (intOf i).toNat)
  case atStart => exact ⟨0, c1, A1, zeros d ++ xs, Nat.zero_le _, rfl, by rw [HLEN.out], hl1, by rw [HLEN.out]; omega, hbel, Lib.hid (by rw [HVAL.out]; simp)⟩
  case round =>
    obtain ⟨k, c', A', ys, hk, rfl, rfl, hl, hyl, hb, hH⟩ := hrel
    clear hl1 hbel
    by_cases hlt : k < s
    · have hlt' : (k : Int) < (s : Int) := by omega
      go_wp2_with fail
      refine (rAdd_c A' A' ys ys c' c' wr hl hl (by omega) (by omega)).mono ?_
      rintro e w2 ⟨A2, c2, rfl, r2, b2⟩
      have hl2 : (limbs (val ys + val ys)).length ≤ 35184372090000 + (k + 1) := limbs_add_le (Nat.le_trans (limbs_length_le hl.lb) hyl) (Nat.le_trans (limbs_length_le hl.lb) hyl)
      have H2 : Hid (val (limbs (val ys + val ys)) = Ba ^ d * (val xs * 2 ^ (k + 1))) := Lib.hid (by rw [val_limbs, hH.out, Nat.pow_succ]; grind)
      have hb2 := hb.trans (b2.mono hb.size)
      have hl3 := r2.lim
      clear r2 b2
      go_wp2_with fail
      go_roundw
      case rel => exact ⟨k + 1, c2, A2, limbs (val ys + val ys), by omega, by go_num, rfl, hl3, hl2, hb2, H2⟩
      case measure => simp [intOf]; omega
    · obtain rfl : k = s := by omega
      go_wp2_with fail
      refine (rTrim_k A' ys c' ys.length (val xs * 2 ^ n) wr hl rfl (by omega) (by rw [hH.out, HV.out])).mono ?_
      rintro e w2 ⟨A2, c2, rfl, r2, b2⟩
      have h2 := r2.mono (lo' := w.heap.size) hb.size
      have hb2 := hb.trans (b2.mono hb.size)
      clear r2 b2
      go_wp2
      go_ret2
      exact ⟨A2, c2, rfl, h2, hb2⟩

theorem bit_k (A : Option Addr) (xs : List Nat) (c i l : Nat) (w : World) (h : Lim w A c xs) (hl : xs.length = l) (hi : i ≤ 9223372036854775807) (z : Int) (hz : z = (i : Int)) :
    Calls Try.prog 86 #[.slice A l c, .int .i64 z] w fun e w' => e = .returned (.int .u32 ((val xs / 2 ^ i % 2 : Nat) : Int)) ∧ w = w' := by
  subst hl hz; exact bit_c A xs c i w h hi
theorem set_low {zs : List Nat} {d s : Nat} (hd : d < zs.length) (hs : s < 32) (hv : val zs < 2 ^ (32 * d + s)) :
    zs[d]?.getD 0 + 2 ^ s < Ba ∧ zs[d]?.getD 0 ||| 2 ^ s = zs[d]?.getD 0 + 2 ^ s ∧ val (zs.set d (zs[d]?.getD 0 + 2 ^ s)) = val zs + 2 ^ (32 * d + s) := by
  have h1 := val_split hd
  have e := val_set (zs[d]?.getD 0 + 2 ^ s) hd
  rw [Nat.pow_add, ← Ba_pow] at hv ⊢
  generalize zs[d]?.getD 0 = x at *
  have hx : x < 2 ^ s := by
    rcases Nat.lt_or_ge x (2 ^ s) with h | h
    · exact h
    · exfalso
      have h2 : Ba ^ d * 2 ^ s ≤ Ba ^ d * (x + Ba * val (zs.drop (d + 1))) := Nat.mul_le_mul_left _ (by omega)
      omega
  have hp : 2 ^ s * 2 ≤ Ba := by
    have : 2 ^ (s + 1) ≤ 2 ^ 32 := Nat.pow_le_pow_right (by decide) (by omega)
    rw [Nat.pow_succ] at this; exact this
  refine ⟨by omega, ?_, ?_⟩
  · have h3 := Nat.shiftLeft_add_eq_or_of_lt hx 1
    rw [Nat.shiftLeft_eq, Nat.one_mul] at h3
    rw [Nat.or_comm, ← h3, Nat.add_comm]
  · rw [Nat.mul_add] at e
    omega
theorem or_low32 (x s : Nat) (h : x ||| 2 ^ s = x + 2 ^ s) (hb : x + 2 ^ s < Ba) : bits .or .u32 (x : Int) (2 ^ s % 4294967296) = ((x + 2 ^ s : Nat) : Int) := by
  have h3 : 2 ^ s < 4294967296 := Nat.lt_of_le_of_lt (Nat.le_add_left _ _) hb
  have h1 : (2 : Int) ^ s % 4294967296 = ((2 ^ s : Nat) : Int) := by
    have h2 : (2 : Int) ^ s = ((2 ^ s : Nat) : Int) := by simp
    rw [h2]
    generalize 2 ^ s = P at h3 ⊢
    omega
  rw [h1, u32_or_nat x (2 ^ s) (Nat.lt_of_le_of_lt (Nat.le_add_right _ _) hb) h3, h]

set_option maxHeartbeats 2000000 in
theorem rShiftRight_zero (A : Option Addr) (xs : List Nat) (c n : Nat) (w : World) (ha : Lim w A c xs) (hs : xs.length ≤ 70368744177660) (hn : n ≤ 9223372036854775807) (hle : (limbs (val xs)).length ≤ n / 32) :
    Calls Try.prog 74 #[.slice A xs.length c, .int .i64 (n : Int)] w (RetNatOk w (val xs / 2 ^ n)) := by
  have h0 : val xs / 2 ^ n = 0 := by
    have := shr_zero (Lb_limbs (val xs)) hle
    rw [val_limbs] at this
    exact this
  rw [h0]
  clear h0
  have hle' : (((limbs (val xs)).length : Nat) : Int) ≤ (n : Int) / 32 := by omega
  go_enter Try.func74, Try.ntmps74
  go_wp2_with fail
  refine (rTrim_c _ _ _ _ ha (by omega)).mono ?_
  rintro e w1 ⟨A1, c1, rfl, r1, b1⟩
  generalize (limbs (val xs)).length = m at *
  go_wp2_with fail
  go_ret2
  exact ⟨_, 0, by rw [limbs_zero]; rfl, by rw [limbs_zero]; exact Own.nil _ _ _, b1.alloc b1.size _⟩

set_option maxHeartbeats 4000000 in
theorem rShiftRight_pos (A : Option Addr) (xs : List Nat) (c n : Nat) (w : World) (ha : Lim w A c xs) (hs : xs.length ≤ 70368744177660) (hn : n ≤ 9223372036854775807) (hlt : n / 32 < (limbs (val xs)).length) :
    Calls Try.prog 74 #[.slice A xs.length c, .int .i64 (n : Int)] w (RetNatOk w (val xs / 2 ^ n)) := by
  have la := limbs_length_le ha.lb
  obtain ⟨d, hd⟩ : ∃ d, n / 32 = d := ⟨_, rfl⟩
  obtain ⟨s, hsm⟩ : ∃ s, n % 32 = s := ⟨_, rfl⟩
  have e1 : (n : Int) / 32 = (d : Int) := by omega
  have e2 : (n : Int) % 32 = (s : Int) := by omega
  have e6 : (n : Int).tmod 32 = (s : Int) := by rw [Int.tmod_eq_emod_of_nonneg (by omega)]; exact e2
  have h32 : s < 32 := by omega
  rw [hd] at hlt
  have hv := shr_all (us := limbs (val xs)) (Lb_limbs _) hd hsm (Nat.le_of_lt hlt)
  rw [val_limbs] at hv
  have hvl : ((limbs (val xs)).drop d).length = (limbs (val xs)).length - d := by simp
  obtain ⟨us, eus⟩ : ∃ us, limbs (val xs) = us := ⟨_, rfl⟩
  rw [eus] at hv hvl la hlt
  obtain ⟨vs, evs⟩ : ∃ vs, us.drop d = vs := ⟨_, rfl⟩
  rw [evs] at hv hvl
  rw [hv]
  obtain ⟨L, eL⟩ : ∃ L, us.length = L := ⟨_, rfl⟩
  rw [eL] at hvl la hlt
  obtain ⟨m, em⟩ : ∃ m, L - d = m := ⟨_, rfl⟩
  rw [em] at hvl
  have hm0 : 0 < m := by omega
  have hm1 : m ≤ L := by omega
  have hmk := mk_run (m : Int) m rfl (by omega)
  have HUS := Lib.hid (show (limbs (val xs)).length = L by rw [eus, eL])
  have EUS := Lib.hid eus
  have EVS := Lib.hid evs
  have EL := Lib.hid eL
  have HL := Lib.hid hvl
  have i1 : (d : Int) ≤ (L : Int) := by omega
  have i2 : ¬ (L : Int) ≤ (d : Int) := by omega
  have i3 : decide (L ≤ d) = false := by rw [decide_eq_false_iff_not]; omega
  clear hv hd hsm eus evs hvl eL
  go_enter Try.func74, Try.ntmps74
  go_wp2_with fail
  refine (rTrim_c _ _ _ _ ha (by omega)).mono ?_
  rintro e w1 ⟨A1, c1, rfl, r1, b1⟩
  have hl1 := r1.lim
  rw [EUS.out] at hl1
  obtain ⟨b, o, rfl, hbl, _⟩ := hl1.at_ (by rw [EL.out]; omega)
  have hvs := hl1.drop d (by rw [EL.out]; exact hlt)
  rw [EVS.out] at hvs
  have hcap := hl1.cap
  rw [EL.out] at hcap
  have hne : ¬ c1 = d := by omega
  have hvlt : val vs < 2 ^ (32 * m) := by
    have := val_lt hvs.lb
    rw [HL.out, Ba_pow] at this; exact this
  have HVLT := Lib.hid hvlt
  rw [HUS.out]
  clear r1 hl1 hvlt HUS EUS EVS EL
  go_wp2_with fail
  go_loopw [7] (fun i wr => ∃ (k : Nat) (zs : List Nat), k ≤ 32 * m ∧ i = .int .i64 k ∧ zs.length = m ∧ Lb zs ∧ Row wr w1.heap.size zs ∧ Below w1.heap.size w1 wr ∧ Hid (val zs = val vs / 2 ^ s % 2 ^ k)) (fun i _ => 32 * m - (intOf i).toNat)
  case atStart => exact ⟨0, zeros m, Nat.zero_le _, rfl, zeros_length _, zeros_lb _, Row.new _ _, bel1 _ _, Lib.hid (by simp [zeros_val, Nat.mod_one])⟩
  case round =>
    obtain ⟨k, zs, hk, rfl, hl, hz, hrow, hbel, hH⟩ := hrel
    have HZ := Lib.hid hl
    clear hl hmk
    by_cases hkm : k < 32 * m
    · have hkm' : (k : Int) < 32 * (m : Int) := by omega
      have hm' : (m : Int) ≤ 70368744177660 := by omega
      have hbit : val vs / 2 ^ (k + s) % 2 = val vs / 2 ^ s / 2 ^ k % 2 := by rw [Nat.div_div_eq_div_mul, ← Nat.pow_add, Nat.add_comm s k]
      have hmp : val vs / 2 ^ s % 2 ^ (k + 1) = val vs / 2 ^ s % 2 ^ k + 2 ^ k * (val vs / 2 ^ s / 2 ^ k % 2) := Nat.mod_pow_succ
      rw [← hbit, ← hH.out] at hmp
      have hvk : val zs < 2 ^ k := by rw [hH.out]; exact Nat.mod_lt _ (Nat.pow_pos (by decide))
      have hd32 : (k : Int) / 32 = ((k / 32 : Nat) : Int) := by omega
      have hm32 : (k : Int) % 32 = ((k % 32 : Nat) : Int) := by omega
      have hm32' : (k : Int).tmod 32 = ((k % 32 : Nat) : Int) := by rw [Int.tmod_eq_emod_of_nonneg (by omega)]; exact hm32
      have hdl : k / 32 < m := by omega
      have hsl : k % 32 < 32 := Nat.mod_lt _ (by decide)
      obtain ⟨g1, g2, g3⟩ := set_low (zs := zs) (d := k / 32) (s := k % 32) (by rw [HZ.out]; exact hdl) hsl (by rw [show 32 * (k / 32) + k % 32 = k by omega]; exact hvk)
      rw [show 32 * (k / 32) + k % 32 = k by omega] at g3
      have hor := or_low32 _ _ g2 g1
      have hcell := hrow.cell (i := k / 32) (by rw [HZ.out]; exact hdl)
      have hfz := hrow.frozen (k / 32)
      obtain ⟨D, eD⟩ : ∃ D, k / 32 = D := ⟨_, rfl⟩
      obtain ⟨S, eS⟩ : ∃ S, k % 32 = S := ⟨_, rfl⟩
      rw [eD] at hd32 hdl g1 g3 hor hcell hfz
      rw [eS] at hm32 hm32' hsl g1 g3 hor
      obtain ⟨x, ex⟩ : ∃ x, zs[D]?.getD 0 = x := ⟨_, rfl⟩
      rw [ex] at g1 g3 hor hcell
      obtain ⟨y, ey⟩ : ∃ y, x + 2 ^ S = y := ⟨_, rfl⟩
      rw [ey] at g1 g3 hor
      have G3 := Lib.hid g3
      have G1 := Lib.hid g1
      have HMP := Lib.hid hmp
      rw [Ba_eq] at g1
      clear eD eS ex ey g2 g3 hmp hbit hvk
      go_wp2_with fail
      refine (bit_k _ vs (c1 - d) (k + s) m wr (hvs.below hbel) HL.out (by omega) ((k : Int) + s) (by omega)).mono ?_
      rintro e w' ⟨rfl, rfl⟩
      have htl : val vs / 2 ^ (k + s) % 2 < 2 := Nat.mod_lt _ (by decide)
      obtain ⟨t, et⟩ : ∃ t, val vs / 2 ^ (k + s) % 2 = t := ⟨_, rfl⟩
      rw [et] at htl HMP ⊢
      clear et
      have ht01 : t = 0 ∨ t = 1 := by omega
      rcases ht01 with rfl | rfl
      · go_wp2_with fail
        go_roundw
        case rel => exact ⟨k + 1, zs, by omega, by go_num, HZ.out, hz, hrow, hbel, Lib.hid (by rw [HMP.out]; simp)⟩
        case measure => simp [intOf]; omega
      · have hput := hrow.put D y (z := (y : Int)) rfl
        go_wp2_with fail
        go_roundw
        case rel => exact ⟨k + 1, zs.set D y, by omega, by go_num, by rw [List.length_set]; exact HZ.out, hz.set _ _ G1.out, hput, hbel.setCell (Nat.le_refl _) _, Lib.hid (by rw [HMP.out, G3.out, Nat.mul_one])⟩
        case measure => simp [intOf]; omega
    · obtain rfl : k = 32 * m := by omega
      have hval : val zs = val vs / 2 ^ s := by
        rw [hH.out]
        exact Nat.mod_eq_of_lt (Nat.lt_of_le_of_lt (Nat.div_le_self _ _) HVLT.out)
      have HVAL := Lib.hid hval
      have hlz := hrow.lim hz (by rw [HZ.out]; omega)
      rw [HZ.out] at hlz
      have hb0 : Below w.heap.size w wr := b1.trans (hbel.mono b1.size)
      have hm' : (m : Int) ≤ 70368744177660 := by omega
      clear hval
      go_wp2_with fail
      refine (rTrim_k _ zs m m (val vs / 2 ^ s) wr hlz HZ.out (by omega) HVAL.out).mono ?_
      rintro e w2 ⟨A2, c2, rfl, r2, b2⟩
      have h2 := r2.mono (lo' := w.heap.size) hb0.size
      have hb2 := hb0.trans (b2.mono hb0.size)
      clear r2 b2
      go_wp2
      go_ret2
      exact ⟨A2, c2, rfl, h2, hb2⟩
theorem rShiftRight_c (A : Option Addr) (xs : List Nat) (c n : Nat) (w : World) (ha : Lim w A c xs) (hs : xs.length ≤ 70368744177660) (hn : n ≤ 9223372036854775807) :
    Calls Try.prog 74 #[.slice A xs.length c, .int .i64 (n : Int)] w (RetNatOk w (val xs / 2 ^ n)) := by
  rcases Nat.lt_or_ge (n / 32) (limbs (val xs)).length with h | h
  · exact rShiftRight_pos A xs c n w ha hs hn h
  · exact rShiftRight_zero A xs c n w ha hs hn h
end Go.Proofs.Ytkoehkadhjjmoaa
