/- Contracts of the reference of layer 1: the canonical list, equality, numbers of 64 bits. -/
import Derived.Test.YtkpchamgghhihaaNatE
namespace Go.Proofs.Ytkpchamgghhihaa
open Go.RowKit Gm

/-- append onto an empty slice without capacity -/
theorem append_run {w1 : World} {g c : Nat} {A : Option Addr} {xs : List Nat} (hx : Lim w1 A c xs) (hs : xs.length ≤ 70368744177664) (ty : TypeId) :
    ∃ A' c' w2, (Builtin.append_ #[22, 22] ty #[.slice (some ⟨g, 0, none⟩) 0 0, .slice A xs.length c]).run Try.prog w1 = .ok (.slice A' xs.length c') w2 ∧ Own w1.heap.size w2 A' c' xs ∧ Below w1.heap.size w1 w2 := by
  obtain ⟨i0, hi, hz0, hz1, hz2⟩ := info_parts info_u32
  rcases Nat.eq_zero_or_pos xs.length with h0 | h0
  · obtain rfl : xs = [] := List.eq_nil_of_length_eq_zero h0
    refine ⟨some ⟨g, 0, none⟩, 0, w1, ?_, Own.nil _ _ _, Below.refl _ _⟩
    cases A <;> simp [Builtin.append_, run_underlying Try.underlying22, sizeOf, typeInfo, hi, Builtin.lenOf, Builtin.firstCells, loadCells, loadCellsFrom, storeCells]
  · obtain ⟨ad, rfl, hsrc⟩ := cells_of_row hx h0
    have h := run_append_grow (P := Try.prog) w1 22 ty 24 i0 (.int .u32 0) Try.underlying22 hi hz0 ⟨g, 0, none⟩ 0 0 [] (by simp) (by simp) ad xs.length c (xs.map fun x => Value.int .u32 ((x : Nat) : Int)) (by simp [hz1]) hsrc
      (by omega) (by omega) (by rw [Nat.zero_add, nextslicecap_zero h0, hz2]; omega)
    rw [Nat.zero_add] at h
    refine ⟨_, _, _, h, ?_, ?_⟩
    · have hge := grownCap_ge w1 xs.length 0 24
      refine ⟨hx.lb, hge, grownCap_le_maxLen w1 xs.length 0 24 (by simp only [maxLen]; omega), fun _ => ⟨w1.heap.size, 0, rfl, Nat.le_refl _, by simp, fun k hk => ⟨?_, ?_⟩⟩⟩
      · rw [Nat.zero_add]
        have hb := heap_alloc_new w1.drew (.cells (([] : List Value).toArray ++ (xs.map fun x => Value.int .u32 ((x : Nat) : Int)).toArray ++ Builtin.zeroCells (Value.int IntKind.u32 0).cells (grownCap w1 xs.length 0 24 - xs.length)) 24)
        have e := cell_of_row _ _ k _ _ _ hb
        refine e.trans ?_
        rw [Array.getElem?_append_left (by simp; exact hk)]
        simp [List.getElem?_eq_getElem hk]
      · have hb := heap_alloc_new w1.drew (.cells (([] : List Value).toArray ++ (xs.map fun x => Value.int .u32 ((x : Nat) : Int)).toArray ++ Builtin.zeroCells (Value.int IntKind.u32 0).cells (grownCap w1 xs.length 0 24 - xs.length)) 24)
        unfold World.frozen?
        rw [show (Addr.mk w1.heap.size (0 + k) none).block = w1.drew.heap.size from rfl, hb]
        simp
    · exact ((Below.refl _ _).drew).alloc (Nat.le_refl _) _
/-- the same as a law of the walk -/
theorem wpList_app {w : World} {ops : Array Oper} {rest : List Oper} {o : Oper} {a : Act} {Q : Exit → Act → World → Prop} (hgd : o.guard = none) (s x : Operand)
    (ho : o.op = .call { callee := .builtin .append, args := #[s, x], argTypes := #[22, 22] }) (g n c : Nat) (A : Option Addr) (xs : List Nat)
    (hs : a.eval s = .slice (some ⟨g, 0, none⟩) 0 0) (hx : a.eval x = .slice A n c) (hn : xs.length = n) (hl : Lim w A c xs) (hm : xs.length ≤ 70368744177664)
    (h : ∀ A' c' w2, Own w.heap.size w2 A' c' xs → Below w.heap.size w w2 → wpList Try.prog ops Q rest (a.put o.dst (.slice A' n c')) w2) : wpList Try.prog ops Q (o :: rest) a w := by
  subst hn
  refine wpList_plain hgd fun K hK => ?_
  obtain ⟨A', c', w2, hrun, h1, h2⟩ := append_run (g := g) hl hm o.type
  unfold Oper.wp execOp
  simp only [ho, resolve, invoke, builtin, Sem.run_bind, Sem.run_pure, Result.andThen_ok, List.map_toArray, List.map_cons, List.map_nil, hs, hx, hrun]
  exact hK _ _ (h A' c' w2 h1 h2)

set_option maxHeartbeats 400000 in
theorem rTrim_c (A : Option Addr) (xs : List Nat) (c : Nat) (w : World) (h : Lim w A c xs) (hs : xs.length ≤ 70368744177664) :
    Calls Try.prog 106 #[.slice A xs.length c] w (RetNat w (val xs)) := by
  have hc := h.cap
  have hm := h.max
  go_enter Try.func106, Try.ntmps106
  go_wp2
  go_loop [3] (fun t => ∃ n : Nat, n ≤ xs.length ∧ t = .int .i64 n ∧ val (xs.drop n) = 0) (fun t => (intOf t).toNat)
  case atStart => exact ⟨xs.length, Nat.le_refl _, rfl, by simp [val]⟩
  case round =>
    obtain ⟨n, hn, rfl, hv⟩ := hrel
    have HV := Lib.hid hv
    clear hv
    rcases Nat.eq_zero_or_pos n with rfl | hp
    · have hl : (limbs (val xs)).length = 0 := by rw [← take_canon h.lb hn HV.out (.inl rfl)]; simp
      have HL := Lib.hid hl
      clear hl
      have hb0 : Below w.heap.size w (w.alloc (.cells #[] 24)) := (Below.refl _ _).alloc (Nat.le_refl _) _
      have hl2 := h.cut.below hb0
      have hs2 : (limbs (val xs)).length ≤ 70368744177664 := by rw [HL.out]; omega
      go_wp2_with (at_builtin; refine wpList_app rfl (.tmp 18) (.tmp 21) rfl w.heap.size _ c A (limbs (val xs)) rfl rfl HL.out hl2 hs2 ?_; intro A' c' w2 hown hbel)
      go_ret
      exact ⟨A', c', by rw [HL.out]; rfl, hown.mono (by simp), hb0.trans (hbel.mono (by simp))⟩
    · obtain ⟨m, rfl⟩ : ∃ m, n = m + 1 := ⟨n - 1, by omega⟩
      have hLb := h.lb
      obtain ⟨b, off, rfl, hb, hcell⟩ := h.at_ (by omega)
      have hx := hcell m (by omega)
      clear hcell
      obtain ⟨x, ex⟩ : ∃ x, xs[m]?.getD 0 = x := ⟨_, rfl⟩
      rw [ex] at hx
      have EX := Lib.hid ex
      clear ex
      by_cases h0 : x = 0
      · subst h0
        clear h
        go_wp2
        go_round
        case rel => exact ⟨m, by omega, by go_num, val_drop_step (by omega) HV.out EX.out⟩
        case measure => simp [intOf]
      · have hb0 : ((x : Int) == 0) = false := by simp; omega
        have hl : (limbs (val xs)).length = m + 1 := by
          rw [← take_canon hLb hn HV.out (.inr (by simp only [Nat.add_sub_cancel]; rw [EX.out]; exact h0))]; simp; omega
        have HL := Lib.hid hl
        clear hl
        have hb1 : Below w.heap.size w (w.alloc (.cells #[] 24)) := (Below.refl _ _).alloc (Nat.le_refl _) _
        have hl2 := h.cut.below hb1
        have hs2 : (limbs (val xs)).length ≤ 70368744177664 := by rw [HL.out]; omega
        clear h
        go_wp2_with (at_builtin; refine wpList_app rfl (.tmp 18) (.tmp 21) rfl w.heap.size _ c _ (limbs (val xs)) rfl rfl HL.out hl2 hs2 ?_; intro A' c' w2 hown hbel)
        go_ret
        exact ⟨A', c', by rw [HL.out]; rfl, hown.mono (by simp), hb1.trans (hbel.mono (by simp))⟩

theorem take_ext {xs ys : List Nat} {k : Nat} (h : xs.take k = ys.take k) (hx : k < xs.length) (hy : k < ys.length) (he : xs[k]?.getD 0 = ys[k]?.getD 0) : xs.take (k + 1) = ys.take (k + 1) := by
  rw [List.take_succ_eq_append_getElem hx, List.take_succ_eq_append_getElem hy, h]
  rw [List.getElem?_eq_getElem hx, List.getElem?_eq_getElem hy] at he
  have he' : xs[k] = ys[k] := by simpa using he
  rw [he']

/-- what a test returns -/
def RetB (w : World) (b : Bool) (e : Ending) (w' : World) : Prop := e = .returned (.bool b) ∧ Below w.heap.size w w'

set_option maxHeartbeats 400000 in
theorem rEqual_c (A B : Option Addr) (xs ys : List Nat) (c d : Nat) (w : World) (ha : Lim w A c xs) (hb : Lim w B d ys) (hs : xs.length ≤ 70368744177664) (ht : ys.length ≤ 70368744177664) :
    Calls Try.prog 74 #[.slice A xs.length c, .slice B ys.length d] w fun e w' => e = .returned (.bool (decide (xs = ys))) ∧ ∃ n, w' = w.drewN n := by
  go_enter Try.func74, Try.ntmps74
  by_cases hne : xs.length = ys.length
  · have hb1 : ((xs.length : Int) != (ys.length : Int)) = false := by simp [hne]
    have HN := Lib.hid hne
    clear hne
    go_wp2_with fail
    go_loopw [5] (fun t wr => ∃ k : Nat, k ≤ xs.length ∧ t = .int .i64 (k : Int) ∧ xs.take k = ys.take k ∧ ∃ n, wr = w.drewN n) (fun t _ => xs.length - (intOf t).toNat)
    case atStart => exact ⟨0, Nat.zero_le _, rfl, by simp, 0, rfl⟩
    case round =>
      obtain ⟨k, hk, rfl, hv, n, rfl⟩ := hrel
      have HV := Lib.hid hv
      clear hv
      by_cases hlt : k < xs.length
      · have e2 := HN.out
        have hm2 : k < ys.length := by omega
        clear e2
        obtain ⟨b1, o1, rfl, hb1', hc1⟩ := ha.at_ (by omega)
        obtain ⟨b2, o2, rfl, hb2', hc2⟩ := hb.at_ (by omega)
        have hx := hc1 k (by omega)
        have hy := hc2 k (by omega)
        clear hc1 hc2 ha hb
        obtain ⟨x, ex⟩ : ∃ x, xs[k]?.getD 0 = x := ⟨_, rfl⟩
        obtain ⟨y, ey⟩ : ∃ y, ys[k]?.getD 0 = y := ⟨_, rfl⟩
        rw [ex] at hx
        rw [ey] at hy
        have EX := Lib.hid ex
        have EY := Lib.hid ey
        clear ex ey
        have i0 : (0 : Int) ≤ (k : Int) := by omega
        have i1 : (k : Int) < xs.length := by omega
        have i2 : (k : Int) < ys.length := by omega
        by_cases hxy : x = y
        · subst hxy
          go_wp2
          go_quiet (fail)
          go_wp2
          go_roundw
          case rel => exact ⟨k + 1, by omega, by go_num, take_ext HV.out hlt hm2 (by rw [EX.out, EY.out]), _, rfl⟩
          case measure => simp [intOf]; omega
        · have hxb : ((x : Int) != (y : Int)) = true := by simp; omega
          go_wp2
          go_quiet (fail)
          go_wp2
          go_ret
          refine ⟨?_, _, World.drewN_drewN _ _ _⟩
          have : xs ≠ ys := by rintro rfl; exact hxy (EX.out.symm.trans EY.out)
          simp [this]
      · have hk2 : ¬ ((k : Int) < (xs.length : Int)) := by omega
        go_wp2
        go_ret
        refine ⟨?_, n, rfl⟩
        have : xs = ys := by
          have e1 := HV.out
          rw [List.take_of_length_le (by omega), List.take_of_length_le (by rw [← HN.out]; omega)] at e1
          exact e1
        simp [this]
  · have hb1 : ((xs.length : Int) != (ys.length : Int)) = true := by simp; omega
    go_wp2_with fail
    go_ret
    refine ⟨?_, 0, rfl⟩
    have : xs ≠ ys := by rintro rfl; exact hne rfl
    simp [this]

set_option maxHeartbeats 400000 in
theorem rFromUint64_c (v : Nat) (w : World) (hv : v < Ba * Ba) :
    Calls Try.prog 105 #[.int .u64 (v : Int)] w (RetNat w v) := by
  have h1 : (v : Int) < 18446744073709551616 := by have : Ba * Ba = 18446744073709551616 := by decide
                                                   omega
  go_enter Try.func105, Try.ntmps105
  go_wp2_with fail
  have hr : Row (w.alloc (.cells #[.int .u32 ((v : Int) % 4294967296), .int .u32 ((v : Int) / 4294967296)] 24)) w.heap.size [v % Ba, v / Ba] := Row.new w [v % Ba, v / Ba]
  have hb : Below w.heap.size w (w.alloc (.cells #[.int .u32 ((v : Int) % 4294967296), .int .u32 ((v : Int) / 4294967296)] 24)) := (Below.refl _ _).alloc (Nat.le_refl _) _
  refine (rTrim_c _ [v % Ba, v / Ba] 2 _ (hr.own (Lb_two hv) (Nat.le_refl _) (by simp)).lim (by simp)).mono ?_
  rintro e w' ⟨A', c', rfl, r3, r4⟩
  rw [val_two] at r3 ⊢
  go_wp2
  go_ret
  exact ⟨A', c', rfl, r3.mono (by simp), hb.trans (r4.mono (by simp))⟩

end Go.Proofs.Ytkpchamgghhihaa
