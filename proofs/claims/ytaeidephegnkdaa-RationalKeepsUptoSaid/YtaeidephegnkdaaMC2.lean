/- RefC RefD RefF IntE RefG in one text. -/
import Derived.Test.YtaeidephegnkdaaMC1
namespace Go.Proofs.Ytaeidephegnkdaa
open Go.RowKit Gm
/- Contracts of the reference of layer 1: comparison, sums, differences, products. -/

/-- what a comparison returns -/
def RetI1 (w : World) (n : Int) (e : Ending) (w' : World) : Prop := e = .returned (.int .i64 n) ∧ Below w.heap.size w w'

set_option maxHeartbeats 400000 in
theorem rCompare_c (A B : Option Addr) (xs ys : List Nat) (c d : Nat) (w : World) (ha : Lim w A c xs) (hb : Lim w B d ys) (hs : xs.length ≤ 70368744177664) (ht : ys.length ≤ 70368744177664) :
    Calls Try.prog 119 #[.slice A xs.length c, .slice B ys.length d] w (RetI1 w (cmpN (val xs) (val ys))) := by
  have hc := ha.cap
  have hm := ha.max
  have hd := hb.cap
  have hn := hb.max
  go_enter Try.func119, Try.ntmps119
  go_wp2_with fail
  refine (rTrim_c _ _ _ _ ha hs).mono ?_
  rintro e w1 ⟨A1, c1, rfl, r1, b1⟩
  go_wp2_with fail
  refine (rTrim_c _ _ _ _ (hb.below b1) ht).mono ?_
  rintro e w2 ⟨A2, c2, rfl, r2, b2⟩
  have la := limbs_length_le ha.lb
  have lb := limbs_length_le hb.lb
  have hbel : Below w.heap.size w w2 := b1.trans (b2.mono b1.size)
  have HB := Lib.hid hbel
  clear hc hm hd hn ha hb
  have ha := r1.lim.below b2
  have hb := r2.lim
  have hc := ha.cap
  have hm := ha.max
  have hd := hb.cap
  have hn := hb.max
  clear r1 r2 b1 b2 hbel
  have ea := val_limbs (val xs)
  have eb := val_limbs (val ys)
  have EA := Lib.hid ea
  have EB := Lib.hid eb
  clear ea eb
  have HLT := Lib.hid (@limbs_lt_length (val xs) (val ys))
  have HGT := Lib.hid (@limbs_lt_length (val ys) (val xs))
  generalize limbs (val xs) = us at *
  generalize limbs (val ys) = vs at *
  by_cases hne : us.length = vs.length
  · have hb1 : ((us.length : Int) != (vs.length : Int)) = false := by simp [hne]
    have HN := Lib.hid hne
    clear hne
    go_wp2_with fail
    go_loopw [5] (fun t wr => ∃ k : Nat, k ≤ us.length ∧ t = .int .i64 ((k : Int) - 1) ∧ val (us.drop k) = val (vs.drop k) ∧ ∃ n, wr = w2.drewN n) (fun t _ => (intOf t + 1).toNat)
    case atStart => exact ⟨us.length, Nat.le_refl _, rfl, by rw [List.drop_length, HN.out, List.drop_length], 0, rfl⟩
    case round =>
      obtain ⟨k, hk, ht, hv, n, rfl⟩ := hrel
      have HV := Lib.hid hv
      clear hv
      rcases Nat.eq_zero_or_pos k with rfl | hp
      · subst ht
        go_wp2
        go_ret
        exact ⟨by rw [cmpN_eq (by rw [← EA.out, ← EB.out]; exact HV.out)]; rfl, below_drewN HB.out n⟩
      · obtain ⟨m, rfl⟩ : ∃ m, k = m + 1 := ⟨k - 1, by omega⟩
        obtain rfl := ht.trans (show Value.int .i64 (((m + 1 : Nat) : Int) - 1) = .int .i64 (m : Int) by congr 1; omega)
        have e2 := HN.out
        have hm2 : m < vs.length := by omega
        clear e2
        have lba := ha.lb
        have lbb := hb.lb
        obtain ⟨b1, o1, rfl, hb1', hc1⟩ := ha.at_ (by omega)
        obtain ⟨b2, o2, rfl, hb2', hc2⟩ := hb.at_ (by omega)
        have hx := hc1 m (by omega)
        have hy := hc2 m (by omega)
        clear hc1 hc2 ha hb
        obtain ⟨x, ex⟩ : ∃ x, us[m]?.getD 0 = x := ⟨_, rfl⟩
        obtain ⟨y, ey⟩ : ∃ y, vs[m]?.getD 0 = y := ⟨_, rfl⟩
        rw [ex] at hx
        rw [ey] at hy
        have EX := Lib.hid ex
        have EY := Lib.hid ey
        clear ex ey
        have i0 : (0 : Int) ≤ (m : Int) := by omega
        have i1 : (m : Int) < us.length := by omega
        have i2 : (m : Int) < vs.length := by omega
        rcases Nat.lt_trichotomy x y with hl | hl | hl
        · go_wp2
          go_quiet (fail)
          go_wp2
          go_ret
          exact ⟨by rw [cmpN_lt (by rw [← EA.out, ← EB.out]; exact cmp_lt lba (by omega) hm2 HV.out (by rw [EX.out, EY.out]; exact hl))]; rfl, below_drewN (below_drewN HB.out _) _⟩
        · subst hl
          go_wp2
          go_quiet (fail)
          go_wp2
          go_quiet (fail)
          go_wp2
          go_roundw
          case rel => exact ⟨m, by omega, rfl, drop_eq_step (by omega) hm2 HV.out (by rw [EX.out, EY.out]), _, rfl⟩
          case measure => simp [intOf]
        · go_wp2
          go_quiet (fail)
          go_wp2
          go_quiet (fail)
          go_wp2
          go_ret
          exact ⟨by rw [cmpN_gt (by rw [← EA.out, ← EB.out]; exact cmp_lt lbb hm2 (by omega) HV.out.symm (by rw [EX.out, EY.out]; exact hl))]; rfl, below_drewN (below_drewN (below_drewN HB.out _) _) _⟩
  · rcases Nat.lt_or_gt_of_ne hne with hl | hl
    · have hb1 : ((us.length : Int) != (vs.length : Int)) = true := by simp; omega
      go_wp2_with fail
      go_ret
      exact ⟨by rw [cmpN_lt (HLT.out hl)]; rfl, HB.out⟩
    · have hb1 : ((us.length : Int) != (vs.length : Int)) = true := by simp; omega
      have hb2 : ¬ ((us.length : Int) < (vs.length : Int)) := by omega
      go_wp2_with fail
      go_ret
      exact ⟨by rw [cmpN_gt (HGT.out hl)]; rfl, HB.out⟩
/-- what a round of the sum does -/
def RAdd (xs ys : List Nat) (w : World) (N : Nat) (t i : Value) (wr : World) : Prop :=
  ∃ (k q : Nat) (zs : List Nat), k ≤ N + 1 ∧ i = .int .i64 k ∧ t = .int .u64 q ∧ q ≤ 1 ∧ zs.length = N + 1 ∧ Lb zs ∧ Row wr w.heap.size zs ∧ Below w.heap.size w wr ∧ (∀ j, k ≤ j → zs[j]?.getD 0 = 0) ∧ val zs + Ba ^ k * q = val (xs.take k) + val (ys.take k)
theorem radd_start (xs ys : List Nat) (w : World) (N : Nat) : RAdd xs ys w N (.int .u64 0) (.int .i64 0) (w.alloc (.cells (cellsOf (zeros (N + 1))) 40)) :=
  ⟨0, 0, zeros (N + 1), Nat.zero_le _, rfl, rfl, by omega, zeros_length _, zeros_lb _, Row.new _ _, (Below.refl _ _).alloc (Nat.le_refl _) _, fun j _ => zeros_get _ _, by simp [zeros_val, val]⟩
theorem radd_next {xs ys zs : List Nat} {w wr : World} {N k q : Nat} {a b : Int} (hx : Lb xs) (hy : Lb ys) (hk : k < N + 1) (hq : q ≤ 1) (hl : zs.length = N + 1) (hz : Lb zs) (hrow : Row wr w.heap.size zs) (hbel : Below w.heap.size w wr) (h0 : ∀ j, k ≤ j → zs[j]?.getD 0 = 0)
    (hv : val zs + Ba ^ k * q = val (xs.take k) + val (ys.take k)) (ha : a = (((q + xs[k]?.getD 0 + ys[k]?.getD 0) % Ba : Nat) : Int)) (hb : b = (((q + xs[k]?.getD 0 + ys[k]?.getD 0) / Ba : Nat) : Int)) :
    RAdd xs ys w N (.int .u64 b) (.int .i64 ((k : Int) + 1)) (wr.setCell ⟨w.heap.size, k, none⟩ (.int .u32 a)) := by
  have h1 := hx.get k
  have h2 := hy.get k
  have h3 : (q + xs[k]?.getD 0 + ys[k]?.getD 0) / Ba < 2 := Nat.div_lt_of_lt_mul (by omega)
  exact ⟨k + 1, _, zs.set k ((q + xs[k]?.getD 0 + ys[k]?.getD 0) % Ba), by omega, by congr 1, by rw [hb], by omega, by rw [List.length_set]; exact hl, hz.set _ _ (Nat.mod_lt _ Ba_pos), hrow.put k _ ha, hbel.setCell (Nat.le_refl _) _, zeros_step h0, add_step (by omega) h0 hv⟩
theorem radd_end {xs ys zs : List Nat} {N q : Nat} (hx : Lb xs) (hy : Lb ys) (hxn : xs.length ≤ N) (hyn : ys.length ≤ N) (hl : zs.length = N + 1) (hz : Lb zs) (hv : val zs + Ba ^ (N + 1) * q = val (xs.take (N + 1)) + val (ys.take (N + 1))) : val zs = val xs + val ys := by
  rw [List.take_of_length_le (by omega), List.take_of_length_le (by omega)] at hv
  have h2 := val_lt hz
  rw [hl] at h2
  have h3 : val xs < Ba ^ N := Nat.lt_of_lt_of_le (val_lt hx) (Nat.pow_le_pow_right Ba_pos hxn)
  have h4 : val ys < Ba ^ N := Nat.lt_of_lt_of_le (val_lt hy) (Nat.pow_le_pow_right Ba_pos hyn)
  have h9 : Ba ^ N * 2 ≤ Ba ^ (N + 1) := by rw [Nat.pow_succ]; exact Nat.mul_le_mul_left _ (by decide)
  have h5 : 0 < q → Ba ^ (N + 1) ≤ Ba ^ (N + 1) * q := fun h => Nat.le_mul_of_pos_right _ h
  have h6 : q = 0 → Ba ^ (N + 1) * q = 0 := fun h => by rw [h, Nat.mul_zero]
  generalize Ba ^ (N + 1) * q = T at *
  generalize Ba ^ (N + 1) = R at *
  generalize Ba ^ N = S at *
  rcases Nat.eq_zero_or_pos q with hq0 | hq0
  · have := h6 hq0; omega
  · have := h5 hq0; omega
theorem mod_small {q : Nat} (h : q ≤ 1) : (q : Int) = ((q % Ba : Nat) : Int) ∧ (q : Int) / 4294967296 = ((q / Ba : Nat) : Int) := by
  have : q < Ba := Nat.lt_of_le_of_lt h (by decide)
  refine ⟨by rw [Nat.mod_eq_of_lt this], (Int.natCast_ediv q Ba).symm⟩
theorem mod_div_cast (n : Nat) : (n : Int) % 4294967296 = ((n % Ba : Nat) : Int) ∧ (n : Int) / 4294967296 = ((n / Ba : Nat) : Int) := by
  have h : ∀ b : Nat, (n : Int) % (b : Int) = ((n % b : Nat) : Int) ∧ (n : Int) / (b : Int) = ((n / b : Nat) : Int) := fun b => ⟨(Int.natCast_emod n b).symm, (Int.natCast_ediv n b).symm⟩
  exact h Ba

set_option maxHeartbeats 1000000 in
theorem rAdd_ge (A B : Option Addr) (xs ys : List Nat) (c d : Nat) (w : World) (ha : Lim w A c xs) (hb : Lim w B d ys) (hs : xs.length < 70368744177664) (ht : ys.length < 70368744177664) (hle : ys.length ≤ xs.length) :
    Calls Try.prog 103 #[.slice A xs.length c, .slice B ys.length d] w (RetNat w (val xs + val ys)) := by
  have hmk := mk_run (↑xs.length + 1) (xs.length + 1) (by omega) (by omega)
  have hle2 : ¬ ((xs.length : Int) < ys.length) := by omega
  go_enter Try.func103, Try.ntmps103
  go_wp2_with fail
  go_loopw [6, 7] (fun t i wr => RAdd xs ys w xs.length t i wr) (fun _ i _ => xs.length + 1 - (intOf i).toNat)
  case atStart => exact radd_start xs ys w xs.length
  case round =>
    obtain ⟨k, q, zs, hk, rfl, rfl, hq, hl, hz, hrow, hbel, h0, hv⟩ := hrel
    have HV := Lib.hid hv
    have H0 := Lib.hid h0
    have HL := Lib.hid hl
    clear hv h0 hl hmk
    by_cases hlt : k < xs.length + 1
    · have hs1 := hrow.cell (i := k) (by rw [HL.out]; omega)
      have hs2 := hrow.frozen k
      rw [H0.out k (Nat.le_refl _)] at hs1
      have bx : xs[k]?.getD 0 < 4294967296 := ha.lb.get k
      have bY : ys[k]?.getD 0 < 4294967296 := hb.lb.get k
      have x0 : ¬ k < xs.length → xs[k]?.getD 0 = 0 := fun h => by rw [List.getElem?_eq_none (by omega)]; rfl
      have y0 : ¬ k < ys.length → ys[k]?.getD 0 = 0 := fun h => by rw [List.getElem?_eq_none (by omega)]; rfl
      by_cases hxk : k < xs.length
      · clear x0
        by_cases hyk : k < ys.length
        · obtain ⟨x, ex⟩ : ∃ x, xs[k]?.getD 0 = x := ⟨_, rfl⟩
          rw [ex] at bx
          have EX := Lib.hid ex
          clear ex
          obtain ⟨y, ey⟩ : ∃ y, ys[k]?.getD 0 = y := ⟨_, rfl⟩
          rw [ey] at bY
          have EY := Lib.hid ey
          clear ey y0
          obtain ⟨b1, o1, rfl, hb1, hc1⟩ := ha.at_ (by omega)
          have hx := (hbel.cell (p := ⟨b1, o1 + k, none⟩) hb1).trans (hc1 k hxk)
          rw [EX.out] at hx
          clear hc1
          obtain ⟨b2, o2, rfl, hb2, hc2⟩ := hb.at_ (by omega)
          have hy := (hbel.cell (p := ⟨b2, o2 + k, none⟩) hb2).trans (hc2 k hyk)
          rw [EY.out] at hy
          clear hc2
          have NXT := fun (a b : Int) => @radd_next xs ys zs w wr xs.length k q a b ha.lb hb.lb hlt hq HL.out hz hrow hbel H0.out HV.out
          rw [EX.out, EY.out] at NXT
          have md := mod_div_cast (q + x + y)
          have ec : ((q + x + y : Nat) : Int) = (q : Int) + x + y := by omega
          rw [ec] at md
          have nx := NXT _ _ md.1 md.2
          clear md ec
          have NX := Lib.hid nx
          clear NXT nx
          go_wp2
          go_roundw
          case rel => exact NX.out
          case measure => simp [intOf]; omega
        · obtain ⟨x, ex⟩ : ∃ x, xs[k]?.getD 0 = x := ⟨_, rfl⟩
          rw [ex] at bx
          have EX := Lib.hid ex
          clear ex
          have EY := Lib.hid (y0 hyk)
          clear y0 bY
          obtain ⟨b1, o1, rfl, hb1, hc1⟩ := ha.at_ (by omega)
          have hx := (hbel.cell (p := ⟨b1, o1 + k, none⟩) hb1).trans (hc1 k hxk)
          rw [EX.out] at hx
          clear hc1
          have hyk' : ¬ ((k : Int) < ys.length) := by omega
          have NXT := fun (a b : Int) => @radd_next xs ys zs w wr xs.length k q a b ha.lb hb.lb hlt hq HL.out hz hrow hbel H0.out HV.out
          rw [EX.out, EY.out] at NXT
          have md := mod_div_cast (q + x + 0)
          have ec : ((q + x + 0 : Nat) : Int) = (q : Int) + x := by omega
          rw [ec] at md
          have nx := NXT _ _ md.1 md.2
          clear md ec
          have NX := Lib.hid nx
          clear NXT nx
          go_wp2
          go_roundw
          case rel => exact NX.out
          case measure => simp [intOf]; omega
      · by_cases hyk : k < ys.length
        · exfalso; omega
        · have EX := Lib.hid (x0 hxk)
          clear x0 bx
          have EY := Lib.hid (y0 hyk)
          clear y0 bY
          have hxk' : ¬ ((k : Int) < xs.length) := by omega
          have hyk' : ¬ ((k : Int) < ys.length) := by omega
          have NXT := fun (a b : Int) => @radd_next xs ys zs w wr xs.length k q a b ha.lb hb.lb hlt hq HL.out hz hrow hbel H0.out HV.out
          rw [EX.out, EY.out] at NXT
          have nx := NXT _ _ (mod_small hq).1 (mod_small hq).2
          have NX := Lib.hid nx
          clear NXT nx
          go_wp2
          go_roundw
          case rel => exact NX.out
          case measure => simp [intOf]; omega
    · obtain rfl : k = xs.length + 1 := by omega
      have HVAL := Lib.hid (radd_end ha.lb hb.lb (by omega) (by omega) HL.out hz HV.out)
      have hown := hrow.own hz (Nat.le_refl _) (by have := HL.out; omega)
      go_wp2_with fail
      have e1 := HL.out
      rw [← e1]
      clear e1
      refine (rTrim_c _ zs _ _ hown.lim (by have := HL.out; omega)).mono ?_
      rintro e w' ⟨A', c', rfl, r3, r4⟩
      rw [HVAL.out] at r3 ⊢
      go_wp2
      go_ret
      exact ⟨A', c', rfl, r3.mono hbel.size, hbel.trans (r4.mono hbel.size)⟩

set_option maxHeartbeats 1000000 in
theorem rAdd_lt (A B : Option Addr) (xs ys : List Nat) (c d : Nat) (w : World) (ha : Lim w A c xs) (hb : Lim w B d ys) (hs : xs.length < 70368744177664) (ht : ys.length < 70368744177664) (hle : xs.length < ys.length) :
    Calls Try.prog 103 #[.slice A xs.length c, .slice B ys.length d] w (RetNat w (val xs + val ys)) := by
  have hmk := mk_run (↑ys.length + 1) (ys.length + 1) (by omega) (by omega)
  have hle2 : (xs.length : Int) < ys.length := by omega
  go_enter Try.func103, Try.ntmps103
  go_wp2_with fail
  go_loopw [6, 7] (fun t i wr => RAdd xs ys w ys.length t i wr) (fun _ i _ => ys.length + 1 - (intOf i).toNat)
  case atStart => exact radd_start xs ys w ys.length
  case round =>
    obtain ⟨k, q, zs, hk, rfl, rfl, hq, hl, hz, hrow, hbel, h0, hv⟩ := hrel
    have HV := Lib.hid hv
    have H0 := Lib.hid h0
    have HL := Lib.hid hl
    clear hv h0 hl hmk
    by_cases hlt : k < ys.length + 1
    · have hs1 := hrow.cell (i := k) (by rw [HL.out]; omega)
      have hs2 := hrow.frozen k
      rw [H0.out k (Nat.le_refl _)] at hs1
      have bx : xs[k]?.getD 0 < 4294967296 := ha.lb.get k
      have bY : ys[k]?.getD 0 < 4294967296 := hb.lb.get k
      have x0 : ¬ k < xs.length → xs[k]?.getD 0 = 0 := fun h => by rw [List.getElem?_eq_none (by omega)]; rfl
      have y0 : ¬ k < ys.length → ys[k]?.getD 0 = 0 := fun h => by rw [List.getElem?_eq_none (by omega)]; rfl
      by_cases hxk : k < xs.length
      · clear x0
        by_cases hyk : k < ys.length
        · obtain ⟨x, ex⟩ : ∃ x, xs[k]?.getD 0 = x := ⟨_, rfl⟩
          rw [ex] at bx
          have EX := Lib.hid ex
          clear ex
          obtain ⟨y, ey⟩ : ∃ y, ys[k]?.getD 0 = y := ⟨_, rfl⟩
          rw [ey] at bY
          have EY := Lib.hid ey
          clear ey y0
          obtain ⟨b1, o1, rfl, hb1, hc1⟩ := ha.at_ (by omega)
          have hx := (hbel.cell (p := ⟨b1, o1 + k, none⟩) hb1).trans (hc1 k hxk)
          rw [EX.out] at hx
          clear hc1
          obtain ⟨b2, o2, rfl, hb2, hc2⟩ := hb.at_ (by omega)
          have hy := (hbel.cell (p := ⟨b2, o2 + k, none⟩) hb2).trans (hc2 k hyk)
          rw [EY.out] at hy
          clear hc2
          have NXT := fun (a b : Int) => @radd_next xs ys zs w wr ys.length k q a b ha.lb hb.lb hlt hq HL.out hz hrow hbel H0.out HV.out
          rw [EX.out, EY.out] at NXT
          have md := mod_div_cast (q + x + y)
          have ec : ((q + x + y : Nat) : Int) = (q : Int) + x + y := by omega
          rw [ec] at md
          have nx := NXT _ _ md.1 md.2
          clear md ec
          have NX := Lib.hid nx
          clear NXT nx
          go_wp2
          go_roundw
          case rel => exact NX.out
          case measure => simp [intOf]; omega
        · exfalso; omega
      · by_cases hyk : k < ys.length
        · have EX := Lib.hid (x0 hxk)
          clear x0 bx
          obtain ⟨y, ey⟩ : ∃ y, ys[k]?.getD 0 = y := ⟨_, rfl⟩
          rw [ey] at bY
          have EY := Lib.hid ey
          clear ey y0
          have hxk' : ¬ ((k : Int) < xs.length) := by omega
          obtain ⟨b2, o2, rfl, hb2, hc2⟩ := hb.at_ (by omega)
          have hy := (hbel.cell (p := ⟨b2, o2 + k, none⟩) hb2).trans (hc2 k hyk)
          rw [EY.out] at hy
          clear hc2
          have NXT := fun (a b : Int) => @radd_next xs ys zs w wr ys.length k q a b ha.lb hb.lb hlt hq HL.out hz hrow hbel H0.out HV.out
          rw [EX.out, EY.out] at NXT
          have md := mod_div_cast (q + 0 + y)
          have ec : ((q + 0 + y : Nat) : Int) = (q : Int) + y := by omega
          rw [ec] at md
          have nx := NXT _ _ md.1 md.2
          clear md ec
          have NX := Lib.hid nx
          clear NXT nx
          go_wp2
          go_roundw
          case rel => exact NX.out
          case measure => simp [intOf]; omega
        · have EX := Lib.hid (x0 hxk)
          clear x0 bx
          have EY := Lib.hid (y0 hyk)
          clear y0 bY
          have hxk' : ¬ ((k : Int) < xs.length) := by omega
          have hyk' : ¬ ((k : Int) < ys.length) := by omega
          have NXT := fun (a b : Int) => @radd_next xs ys zs w wr ys.length k q a b ha.lb hb.lb hlt hq HL.out hz hrow hbel H0.out HV.out
          rw [EX.out, EY.out] at NXT
          have nx := NXT _ _ (mod_small hq).1 (mod_small hq).2
          have NX := Lib.hid nx
          clear NXT nx
          go_wp2
          go_roundw
          case rel => exact NX.out
          case measure => simp [intOf]; omega
    · obtain rfl : k = ys.length + 1 := by omega
      have HVAL := Lib.hid (radd_end ha.lb hb.lb (by omega) (by omega) HL.out hz HV.out)
      have hown := hrow.own hz (Nat.le_refl _) (by have := HL.out; omega)
      go_wp2_with fail
      have e1 := HL.out
      rw [← e1]
      clear e1
      refine (rTrim_c _ zs _ _ hown.lim (by have := HL.out; omega)).mono ?_
      rintro e w' ⟨A', c', rfl, r3, r4⟩
      rw [HVAL.out] at r3 ⊢
      go_wp2
      go_ret
      exact ⟨A', c', rfl, r3.mono hbel.size, hbel.trans (r4.mono hbel.size)⟩

/-- the sum -/
theorem rAdd_c (A B : Option Addr) (xs ys : List Nat) (c d : Nat) (w : World) (ha : Lim w A c xs) (hb : Lim w B d ys) (hs : xs.length < 70368744177664) (ht : ys.length < 70368744177664) :
    Calls Try.prog 103 #[.slice A xs.length c, .slice B ys.length d] w (RetNat w (val xs + val ys)) := by
  rcases Nat.lt_or_ge xs.length ys.length with h | h
  · exact rAdd_lt A B xs ys c d w ha hb hs ht h
  · exact rAdd_ge A B xs ys c d w ha hb hs ht h


/- Contracts of the reference of layer 1: differences, products. -/

/-- what a function returns that refuses: nothing -/
def RetNo1 (w : World) (e : Ending) (w' : World) : Prop := e = .returned (.tuple #[.slice none 0 0, .bool false]) ∧ Below w.heap.size w w'

set_option maxHeartbeats 400000 in
theorem rSub_no (A B : Option Addr) (xs ys : List Nat) (c d : Nat) (w : World) (ha : Lim w A c xs) (hb : Lim w B d ys) (hs : xs.length ≤ 70368744177664) (ht : ys.length ≤ 70368744177664) (hlt : val xs < val ys) :
    Calls Try.prog 104 #[.slice A xs.length c, .slice B ys.length d] w (RetNo1 w) := by
  have EC := Lib.hid (cmpN_lt hlt)
  clear hlt
  go_enter Try.func104, Try.ntmps104
  go_wp2_with fail
  refine (rCompare_c _ _ _ _ _ _ _ ha hb hs ht).mono ?_
  rintro e w1 ⟨rfl, b1⟩
  rw [EC.out]
  go_wp2_with fail
  go_ret2
  exact ⟨rfl, b1⟩

/-- what a round of the difference keeps -/
def RSub (us vs : List Nat) (w : World) (g : Nat) (t i : Value) (wr : World) : Prop :=
  ∃ (k q : Nat) (zs : List Nat), k ≤ us.length ∧ i = .int .i64 k ∧ t = .int .u64 q ∧ q ≤ 1 ∧ zs.length = us.length ∧ Lb zs ∧ Row wr g zs ∧ Below g w wr ∧ (∀ j, k ≤ j → zs[j]?.getD 0 = 0) ∧ val zs + val (vs.take k) = val (us.take k) + Ba ^ k * q
theorem rsub_next {us vs zs : List Nat} {w wr : World} {g k q : Nat} {a : Int} {z r : Nat} (hk : k < us.length) (hl : zs.length = us.length) (hz : Lb zs) (hrow : Row wr g zs) (hbel : Below g w wr) (h0 : ∀ j, k ≤ j → zs[j]?.getD 0 = 0)
    (hv : val zs + val (vs.take k) = val (us.take k) + Ba ^ k * q) (ha : a = (z : Int)) (hzb : z < Ba) (hr : r ≤ 1) (he : z + q + vs[k]?.getD 0 = us[k]?.getD 0 + r * Ba) :
    RSub us vs w g (.int .u64 (r : Int)) (.int .i64 ((k : Int) + 1)) (wr.setCell ⟨g, k, none⟩ (.int .u32 a)) := by
  refine ⟨k + 1, r, zs.set k z, by omega, rfl, rfl, hr, by rw [List.length_set]; exact hl, hz.set _ _ hzb, hrow.put k z ha, hbel.setCell (Nat.le_refl _) _, zeros_step h0, ?_⟩
  have hr2 : r = 0 ∨ r = 1 := by omega
  rcases hr2 with rfl | rfl
  · exact sub_step_no (by omega) h0 hv (by omega)
  · exact sub_step_yes (by omega) h0 hv (by omega)

set_option maxHeartbeats 1000000 in
theorem rSub_ok (A B : Option Addr) (xs ys : List Nat) (c d : Nat) (w : World) (ha : Lim w A c xs) (hb : Lim w B d ys) (hs : xs.length ≤ 70368744177664) (ht : ys.length ≤ 70368744177664) (hge : val ys ≤ val xs) :
    Calls Try.prog 104 #[.slice A xs.length c, .slice B ys.length d] w (RetNatOk w (val xs - val ys)) := by
  have ec : 0 ≤ cmpN (val xs) (val ys) := by
    rcases Nat.lt_or_eq_of_le hge with h | h
    · rw [cmpN_gt h]; omega
    · rw [cmpN_eq h.symm]; omega
  go_enter Try.func104, Try.ntmps104
  go_wp2_with fail
  refine (rCompare_c _ _ _ _ _ _ _ ha hb hs ht).mono ?_
  rintro e w0 ⟨rfl, b0⟩
  generalize cmpN (val xs) (val ys) = z at *
  have ec' : ¬ z < 0 := by omega
  go_wp2_with fail
  refine (rTrim_c _ _ _ _ (ha.below b0) hs).mono ?_
  rintro e w1 ⟨A1, c1, rfl, r1, b1⟩
  go_wp2_with fail
  refine (rTrim_c _ _ _ _ ((hb.below b0).below b1) ht).mono ?_
  rintro e w2 ⟨A2, c2, rfl, r2, b2⟩
  have la := limbs_length_le ha.lb
  have lb := limbs_length_le hb.lb
  have hle := limbs_mono hge
  have HGE := Lib.hid hge
  have EA := Lib.hid (val_limbs (val xs))
  have EB := Lib.hid (val_limbs (val ys))
  have HB := Lib.hid ((b0.trans (b1.mono b0.size)).trans (b2.mono (Nat.le_trans b0.size b1.size)))
  clear ha hb hge
  have ha := r1.lim.below b2
  have hb := r2.lim
  clear r1 r2 b1 b2 b0
  generalize limbs (val xs) = us at *
  generalize limbs (val ys) = vs at *
  have hmk := mk_run (↑us.length) us.length rfl (by omega)
  go_wp2_with fail
  go_loopw [7, 8] (fun t i wr => RSub us vs w2 w2.heap.size t i wr) (fun _ i _ => us.length - (intOf i).toNat)
  case atStart => exact ⟨0, 0, zeros us.length, Nat.zero_le _, rfl, rfl, by omega, zeros_length _, zeros_lb _, Row.new _ _, (Below.refl _ _).alloc (Nat.le_refl _) _, fun j _ => zeros_get _ _, by simp [zeros_val, val]⟩
  case round =>
    obtain ⟨k, q, zs, hk, rfl, rfl, hq, hl, hz, hrow, hbel, h0, hv⟩ := hrel
    have HV := Lib.hid hv
    have H0 := Lib.hid h0
    have HL := Lib.hid hl
    clear hv h0 hl hmk
    by_cases hlt : k < us.length
    · obtain ⟨b1, o1, rfl, hb1, hc1⟩ := ha.at_ (by omega)
      have hx := (hbel.cell (p := ⟨b1, o1 + k, none⟩) hb1).trans (hc1 k hlt)
      have bx : us[k]?.getD 0 < 4294967296 := ha.lb.get k
      obtain ⟨x, ex⟩ : ∃ x, us[k]?.getD 0 = x := ⟨_, rfl⟩
      rw [ex] at hx bx
      have EX := Lib.hid ex
      have hs1 := hrow.cell (i := k) (by rw [HL.out]; omega)
      have hs2 := hrow.frozen k
      rw [H0.out k (Nat.le_refl _)] at hs1
      clear ex hc1
      by_cases hyk : k < vs.length
      · obtain ⟨b2, o2, rfl, hb2, hc2⟩ := hb.at_ (by omega)
        have hy := (hbel.cell (p := ⟨b2, o2 + k, none⟩) hb2).trans (hc2 k hyk)
        have bY : vs[k]?.getD 0 < 4294967296 := hb.lb.get k
        obtain ⟨y, ey⟩ : ∃ y, vs[k]?.getD 0 = y := ⟨_, rfl⟩
        rw [ey] at hy bY
        have EY := Lib.hid ey
        clear ey hc2
        by_cases hxy : x < q + y
        · have nx := @rsub_next us vs zs w2 wr w2.heap.size k q ((x : Int) + 4294967296 - ((q : Int) + y)) (x + Ba - (q + y)) 1 hlt HL.out hz hrow hbel H0.out HV.out (by have := Ba_eq; omega) (by have := Ba_eq; omega) (by omega) (by rw [EX.out, EY.out]; have := Ba_eq; omega)
          have NX := Lib.hid nx
          clear nx
          have hxy' : (x : Int) < ((q : Int) + y) := by omega
          go_wp2
          go_roundw
          case rel => exact NX.out
          case measure => simp [intOf]; omega
        · have nx := @rsub_next us vs zs w2 wr w2.heap.size k q ((x : Int) - ((q : Int) + y)) (x - (q + y)) 0 hlt HL.out hz hrow hbel H0.out HV.out (by omega) (by have := Ba_eq; omega) (by omega) (by rw [EX.out, EY.out]; omega)
          have NX := Lib.hid nx
          clear nx
          have hxy' : ¬ (x : Int) < ((q : Int) + y) := by omega
          go_wp2
          go_roundw
          case rel => exact NX.out
          case measure => simp [intOf]; omega
      · have hyk' : ¬ ((k : Int) < vs.length) := by omega
        have EY : Hid (vs[k]?.getD 0 = 0) := by
          show vs[k]?.getD 0 = 0
          rw [List.getElem?_eq_none (by omega)]; rfl
        by_cases hxy : x < q
        · have nx := @rsub_next us vs zs w2 wr w2.heap.size k q ((x : Int) + 4294967296 - (q : Int)) (x + Ba - (q)) 1 hlt HL.out hz hrow hbel H0.out HV.out (by have := Ba_eq; omega) (by have := Ba_eq; omega) (by omega) (by rw [EX.out, EY.out]; have := Ba_eq; omega)
          have NX := Lib.hid nx
          clear nx
          have hxy' : (x : Int) < (q : Int) := by omega
          go_wp2
          go_roundw
          case rel => exact NX.out
          case measure => simp [intOf]; omega
        · have nx := @rsub_next us vs zs w2 wr w2.heap.size k q ((x : Int) - (q : Int)) (x - (q)) 0 hlt HL.out hz hrow hbel H0.out HV.out (by omega) (by have := Ba_eq; omega) (by omega) (by rw [EX.out, EY.out]; omega)
          have NX := Lib.hid nx
          clear nx
          have hxy' : ¬ (x : Int) < (q : Int) := by omega
          go_wp2
          go_roundw
          case rel => exact NX.out
          case measure => simp [intOf]; omega
    · obtain rfl : k = us.length := by omega
      have hval : val zs = val xs - val ys := by
        rw [← EA.out, ← EB.out]
        have := HV.out
        rw [List.take_of_length_le (Nat.le_refl _), List.take_of_length_le (by omega)] at this
        exact sub_end hz HL.out (by rw [EA.out, EB.out]; exact HGE.out) this
      have HVAL := Lib.hid hval
      clear hval
      have hown := hrow.own hz (Nat.le_refl _) (by have := HL.out; omega)
      go_wp2_with fail
      have e1 := HL.out
      rw [← e1]
      clear e1
      refine (rTrim_c _ zs _ _ hown.lim (by have := HL.out; omega)).mono ?_
      rintro e w' ⟨A', c', rfl, r3, r4⟩
      rw [HVAL.out] at r3 ⊢
      go_wp2
      go_ret2
      exact ⟨A', c', rfl, r3.mono (Nat.le_trans HB.out.size hbel.size), (HB.out.trans (hbel.mono HB.out.size)).trans (r4.mono (Nat.le_trans HB.out.size hbel.size))⟩

set_option maxHeartbeats 1000000 in
theorem rMul_c (A B : Option Addr) (us vs : List Nat) (c d : Nat) (w : World) (ha : Lim w A c us) (hb : Lim w B d vs) (hs : us.length + vs.length ≤ 70368744177664) :
    Calls Try.prog 118 #[.slice A us.length c, .slice B vs.length d] w (RetNat w (val us * val vs)) := by
  have hmk := mk_run (↑us.length + ↑vs.length) (us.length + vs.length) (by omega) (by omega)
  go_enter Try.func118, Try.ntmps118
  go_wp2_with fail
  go_loopw [6] (fun i wr => ∃ (k : Nat) (ps : List Nat), k ≤ us.length ∧ i = .int .i64 k ∧ ps.length = us.length + vs.length ∧ Lb ps ∧ Row wr w.heap.size ps ∧ Below w.heap.size w wr ∧ (∀ j, k + vs.length ≤ j → ps[j]?.getD 0 = 0) ∧ val ps = val (us.take k) * val vs) (fun i _ => us.length - (intOf i).toNat)
  case atStart => exact ⟨0, zeros (us.length + vs.length), Nat.zero_le _, rfl, zeros_length _, zeros_lb _, Row.new _ _, (Below.refl _ _).alloc (Nat.le_refl _) _, fun j _ => zeros_get _ _, by simp [zeros_val, val]⟩
  case round =>
    obtain ⟨k, ps, hk, rfl, hl, hz, hrow, hbel, h0, hv⟩ := hrel
    have HV := Lib.hid hv
    have H0 := Lib.hid h0
    have HL := Lib.hid hl
    clear hv h0 hl hmk
    by_cases hlt : k < us.length
    · obtain ⟨b1, o1, rfl, hb1, hc1⟩ := ha.at_ (by omega)
      have hx0 := hc1 k hlt
      have bx : us[k]?.getD 0 < 4294967296 := ha.lb.get k
      have hts := val_take_succ (xs := us) hlt
      obtain ⟨x, ex⟩ : ∃ x, us[k]?.getD 0 = x := ⟨_, rfl⟩
      rw [ex] at hx0 bx hts
      have HTS := Lib.hid hts
      have HX0 := Lib.hid hx0
      clear ex hc1 hts hx0
      obtain ⟨wo, rfl⟩ : ∃ wo : World, wo = wr := ⟨_, rfl⟩
      go_wp2
      go_loopw [7, 8] (fun t i wi => ∃ (j q : Nat) (zs : List Nat), j ≤ vs.length ∧ i = .int .i64 j ∧ t = .int .u64 q ∧ q < 4294967296 ∧ zs.length = us.length + vs.length ∧ Lb zs ∧ Row wi w.heap.size zs ∧ Below w.heap.size w wi ∧ (∀ n, k + j ≤ n → zs[n]?.getD 0 = ps[n]?.getD 0) ∧ val zs + Ba ^ (k + j) * q = val ps + x * Ba ^ k * val (vs.take j)) (fun _ i _ => vs.length - (intOf i).toNat)
      case atStart => exact ⟨0, 0, ps, Nat.zero_le _, rfl, rfl, by omega, HL.out, hz, hrow, hbel, fun n _ => rfl, by simp [val]⟩
      case round =>
        obtain ⟨j, q, zs, hj, rfl, rfl, hq, hl2, hz2, hrow2, hbel2, hsame, hv2⟩ := hrel
        have HV2 := Lib.hid hv2
        have HS2 := Lib.hid hsame
        have HL2 := Lib.hid hl2
        clear hv2 hsame hl2
        by_cases hlt2 : j < vs.length
        · obtain ⟨b2, o2, rfl, hb2, hc2⟩ := hb.at_ (by omega)
          have hx := (hbel2.cell (p := ⟨b1, o1 + k, none⟩) hb1).trans HX0.out
          have hy := (hbel2.cell (p := ⟨b2, o2 + j, none⟩) hb2).trans (hc2 j hlt2)
          have bY : vs[j]?.getD 0 < 4294967296 := hb.lb.get j
          have hzc := hrow2.cell (i := k + j) (by rw [HL2.out]; omega)
          have hzf := hrow2.frozen (k + j)
          have bz : zs[k + j]?.getD 0 < 4294967296 := hz2.get (k + j)
          have hstep := mul_step (ys := vs) (zs := zs) (i := k) (j := j) (c := q) (x := x) (T := val ps) (by rw [HL2.out]; omega) HV2.out
          obtain ⟨y, ey⟩ : ∃ y, vs[j]?.getD 0 = y := ⟨_, rfl⟩
          obtain ⟨z, ez⟩ : ∃ z, zs[k + j]?.getD 0 = z := ⟨_, rfl⟩
          rw [ey] at hy bY hstep
          rw [ez] at hzc bz hstep
          have hpb := Nat.mul_le_mul (Nat.le_pred_of_lt bx) (Nat.le_pred_of_lt bY)
          have hpe : (x : Int) * (y : Int) = ((x * y : Nat) : Int) := (Int.natCast_mul x y).symm
          obtain ⟨p, ep⟩ : ∃ p, x * y = p := ⟨_, rfl⟩
          rw [ep] at hpe hpb hstep
          have hpb' : p ≤ 18446744065119617025 := hpb
          have EPQ : Hid (q + p + z = q + (z + p)) := by show q + p + z = q + (z + p); omega
          rw [EPQ.out] at hstep
          have HST := Lib.hid hstep
          have HPE := Lib.hid hpe
          clear ey ez ep hc2 hpb hstep hpe
          have hpe : (x : Int) * (y : Int) = (p : Int) := HPE.out
          have g1 : (0 : Int) ≤ (k : Int) + j := by omega
          have g2 : (k : Int) + j < us.length + vs.length := by omega
          have g3 : ((k : Int) + j).toNat = k + j := by omega
          have g4 : IntKind.i64.wrap ((k : Int) + j) = (k : Int) + j := IntWalk.i64_in _ (by omega)
          have g5 : IntKind.u64.wrap (p : Int) = (p : Int) := by rw [IntKind.wrap_u64]; omega
          have g6 : IntKind.u64.wrap ((z : Int) + p) = (z : Int) + p := by rw [IntKind.wrap_u64]; omega
          have g7 : IntKind.u64.wrap ((q : Int) + ((z : Int) + p)) = (q : Int) + ((z : Int) + p) := by rw [IntKind.wrap_u64]; omega
          have g8 : (0 : Int) ≤ (k : Int) := by omega
          have g9 : (k : Int) < us.length := by omega
          have g10 : (0 : Int) ≤ (j : Int) := by omega
          have g11 : (j : Int) < vs.length := by omega
          go_wp2
          go_quiet (fail)
          clear g1 g2 g3 g4 g5 g6 g7 g8 g9 g10 g11
          go_wp2
          go_roundw
          case rel => exact ⟨j + 1, (q + (z + p)) / Ba, zs.set (k + j) ((q + (z + p)) % Ba), by omega, by go_num, by simp only [Ba_eq]; go_num, by simp only [Ba_eq]; omega, by rw [List.length_set]; exact HL2.out, hz2.set _ _ (Nat.mod_lt _ Ba_pos), (hrow2.drewN _).put (k + j) _ (by simp only [Ba_eq]; omega), (below_drewN hbel2 _).setCell (Nat.le_refl _) _, fun n hn => by rw [get_set_ne _ (by omega)]; exact HS2.out n (by omega), HST.out⟩
          case measure => simp [intOf]; omega
        · obtain rfl : j = vs.length := by omega
          have hs1 := hrow2.cell (i := k + vs.length) (by rw [HL2.out]; omega)
          have hs2 := hrow2.frozen (k + vs.length)
          have ez : zs[k + vs.length]?.getD 0 = 0 := by rw [HS2.out _ (Nat.le_refl _)]; exact H0.out _ (Nat.le_refl _)
          rw [ez] at hs1
          have hr := hrow2.put (k + vs.length) q (z := (q : Int)) rfl
          have e3 := val_set (zs := zs) (k := k + vs.length) q (by rw [HL2.out]; omega)
          rw [ez] at e3
          have hval : val (zs.set (k + vs.length) q) = val (us.take (k + 1)) * val vs := by
            have h1 := HV2.out
            rw [List.take_of_length_le (Nat.le_refl _), HV.out] at h1
            rw [HTS.out]
            grind
          have HVAL := Lib.hid hval
          clear ez e3 hval
          go_wp2
          go_roundw
          case rel => exact ⟨k + 1, zs.set (k + vs.length) q, by omega, by go_num, by rw [List.length_set]; exact HL2.out, hz2.set _ _ (by have := Ba_eq; omega), hr, hbel2.setCell (Nat.le_refl _) _, fun n hn => by rw [get_set_ne _ (by omega), HS2.out n (by omega)]; exact H0.out n (by omega), HVAL.out⟩
          case measure => simp [intOf]; omega
    · obtain rfl : k = us.length := by omega
      have hval : val ps = val us * val vs := by
        rw [HV.out, List.take_of_length_le (Nat.le_refl _)]
      have HVAL := Lib.hid hval
      clear hval
      have hown := hrow.own hz (Nat.le_refl _) (by have := HL.out; omega)
      go_wp2_with fail
      have e1 := HL.out
      rw [← e1]
      clear e1
      refine (rTrim_c _ ps _ _ hown.lim (by have := HL.out; omega)).mono ?_
      rintro e w' ⟨A', c', rfl, r3, r4⟩
      rw [HVAL.out] at r3 ⊢
      go_wp2
      go_ret
      exact ⟨A', c', rfl, r3.mono hbel.size, hbel.trans (r4.mono hbel.size)⟩


/- Contracts of the reference of layer 2: negation, absolute value, sums, differences, products. -/

theorem iv_limbs (p : Bool) (n : Nat) : iv p (limbs n) = mkI p n := by rw [iv_eq, val_limbs]

set_option maxHeartbeats 400000 in
theorem rNeg_c (p : Bool) (A : Option Addr) (xs : List Nat) (c : Nat) (w : World) (ha : Lim w A c xs) (hs : xs.length ≤ 70368744177664) :
    Calls Try.prog 73 #[.agg #[.bool p, .slice A xs.length c]] w (RetInt w (- iv p xs)) := by
  have EV := Lib.hid (show iv (!p) xs = - iv p xs from iv_not p xs)
  go_enter Try.func73, Try.ntmps73
  go_wp2_with fail
  obtain ⟨W, hW, hbW, hsz, k, kr⟩ := boxes_ar w p (.slice A xs.length c)
  rw [hW]
  clear hW
  have hz : w.heap.size + 2 ≤ W.heap.size := by omega
  clear hsz
  refine (Make_c (!p) A xs c _ (ha.below hbW) hs).mono ?_
  rw [EV.out]
  rintro e w1 ⟨A1, c1, rfl, r3, bw1⟩
  generalize - iv p xs = z at *
  obtain ⟨m1, m2, m3, m4⟩ := keepR bw1 (show w.heap.size + 1 < W.heap.size by omega) kr
  have hret : RetInt w z (.returned (.agg #[.bool (decide (z < 0)), .slice A1 (limbs z.natAbs).length c1]))
      ((w1.setCell ⟨w.heap.size + 1, 0, none⟩ (.bool (decide (z < 0)))).setCell ⟨w.heap.size + 1, 1, none⟩ (.slice A1 (limbs z.natAbs).length c1)) :=
    ⟨A1, c1, rfl, (r3.put2 (show w.heap.size + 1 < W.heap.size by omega) _ _).mono (show w.heap.size ≤ W.heap.size by omega), below_put2 (hbW.trans (bw1.mono (show w.heap.size ≤ W.heap.size by omega))) (by omega) _ _⟩
  clear r3 bw1 hbW kr k
  go_wp2
  exact bodyPost_ret (v := .agg #[.bool (decide (z < 0)), .slice A1 (limbs z.natAbs).length c1]) (by simp [results, Try.results73, go_sem, m1, m2]) rfl hret

set_option maxHeartbeats 400000 in
theorem rAbs_c (p : Bool) (A : Option Addr) (xs : List Nat) (c : Nat) (w : World) (ha : Lim w A c xs) (hs : xs.length ≤ 70368744177664) :
    Calls Try.prog 13 #[.agg #[.bool p, .slice A xs.length c]] w (RetInt w (((val xs : Nat) : Int))) := by
  have EV := Lib.hid (show iv false xs = ((val xs : Nat) : Int) from rfl)
  go_enter Try.func13, Try.ntmps13
  go_wp2_with fail
  obtain ⟨W, hW, hbW, hsz, k, kr⟩ := boxes_ar w p (.slice A xs.length c)
  rw [hW]
  clear hW
  have hz : w.heap.size + 2 ≤ W.heap.size := by omega
  clear hsz
  refine (Make_c false A xs c _ (ha.below hbW) hs).mono ?_
  rw [EV.out]
  rintro e w1 ⟨A1, c1, rfl, r3, bw1⟩
  generalize ((val xs : Nat) : Int) = z at *
  obtain ⟨m1, m2, m3, m4⟩ := keepR bw1 (show w.heap.size + 1 < W.heap.size by omega) kr
  have hret : RetInt w z (.returned (.agg #[.bool (decide (z < 0)), .slice A1 (limbs z.natAbs).length c1]))
      ((w1.setCell ⟨w.heap.size + 1, 0, none⟩ (.bool (decide (z < 0)))).setCell ⟨w.heap.size + 1, 1, none⟩ (.slice A1 (limbs z.natAbs).length c1)) :=
    ⟨A1, c1, rfl, (r3.put2 (show w.heap.size + 1 < W.heap.size by omega) _ _).mono (show w.heap.size ≤ W.heap.size by omega), below_put2 (hbW.trans (bw1.mono (show w.heap.size ≤ W.heap.size by omega))) (by omega) _ _⟩
  clear r3 bw1 hbW kr k
  go_wp2
  exact bodyPost_ret (v := .agg #[.bool (decide (z < 0)), .slice A1 (limbs z.natAbs).length c1]) (by simp [results, Try.results13, go_sem, m1, m2]) rfl hret

theorem Make_n (p : Bool) (A : Option Addr) (xs : List Nat) (c : Nat) (w : World) (s : Int) (h : Lim w A c xs) (hs : xs.length ≤ 70368744177664) (he : iv p xs = s) :
    Calls Try.prog 53 #[.bool p, .slice A xs.length c] w (RetInt w s) := by
  subst he; exact Make_c p A xs c w h hs

set_option maxHeartbeats 1000000 in
theorem rIAdd_same (p : Bool) (A B : Option Addr) (xs ys : List Nat) (c d : Nat) (w : World) (ha : Lim w A c xs) (hb : Lim w B d ys) (hs : xs.length < 70368744177664) (ht : ys.length < 70368744177664) (hsz0 : (limbs (val xs + val ys)).length ≤ 70368744177664) :
    Calls Try.prog 77 #[.agg #[.bool p, .slice A xs.length c], .agg #[.bool p, .slice B ys.length d]] w (RetInt w (iv p xs + iv p ys)) := by
  have EV := Lib.hid (show iv p (limbs (val xs + val ys)) = iv p xs + iv p ys from (iv_limbs p _).trans (mkI_add p (val xs) (val ys)).symm)
  go_enter Try.func77, Try.ntmps77
  have hpp : (p == p) = true := by simp
  go_wp2_with fail
  obtain ⟨W, hW, hbW, hsz, k, kr⟩ := three_boxes w p p (.slice A xs.length c) (.slice B ys.length d)
  rw [hW]
  clear hW
  have hz : w.heap.size + 3 ≤ W.heap.size := by omega
  clear hsz
  obtain ⟨k1, k2, k3, k4⟩ := k
  go_wp2_with fail
  go_region_held3 (fun w' => w'.cell? ⟨w.heap.size, 0, none⟩ = some (.bool p) ∧ w'.cell? ⟨w.heap.size, 1, none⟩ = some (.slice A xs.length c) ∧ w'.cell? ⟨w.heap.size + 1, 0, none⟩ = some (.bool p) ∧ w'.cell? ⟨w.heap.size + 1, 1, none⟩ = some (.slice B ys.length d))
    (first | exact l1 | exact l2 | exact keep2 (below_put2 (Below.refl (w.heap.size + 1 + 1) w2) (Nat.le_refl _) _ _) (Nat.le_refl _) l2 | go_keep)
    (first
      | (go_at_call 103; refine (rAdd_c A B xs ys c d _ ?_ ?_ hs ht).mono ?_; exact ha.below (below_drewN hbW 1); exact hb.below (below_drewN hbW 1); rintro e w1 ⟨A1, c1, rfl, r3, bw1⟩; have l1 := keep2 bw1 (show w.heap.size + 2 ≤ W.heap.size by omega) ⟨k1, k2, k3, k4⟩)
      | (go_at_call 53; refine (Make_n p A1 (limbs (val xs + val ys)) c1 _ (iv p xs + iv p ys) r3.lim hsz0 EV.out).mono ?_; rintro e w2 ⟨A2, c2, rfl, r4, bw2⟩; have l2 := keep2 bw2 (Nat.le_trans (show w.heap.size + 2 ≤ W.heap.size by omega) bw1.size) l1; obtain ⟨m1, m2, m3, m4⟩ := keepR (N := w.heap.size + 1 + 1) bw2 (Nat.lt_of_lt_of_le (show w.heap.size + 1 + 1 < W.heap.size by omega) bw1.size) (keepR bw1 (show w.heap.size + 1 + 1 < W.heap.size by omega) kr)))
  have hbw : Below w.heap.size w w2 := ((below_drewN hbW 1).trans (bw1.mono (show w.heap.size ≤ W.heap.size by omega))).trans (bw2.mono (Nat.le_trans (show w.heap.size ≤ W.heap.size by omega) bw1.size))
  have hlw : w.heap.size + 1 + 1 < w1.heap.size := Nat.lt_of_lt_of_le (show w.heap.size + 1 + 1 < W.heap.size by omega) bw1.size
  generalize iv p xs + iv p ys = z at *
  have hret : RetInt w z (.returned (.agg #[.bool (decide (z < 0)), .slice A2 (limbs z.natAbs).length c2]))
      ((w2.setCell ⟨w.heap.size + 1 + 1, 0, none⟩ (.bool (decide (z < 0)))).setCell ⟨w.heap.size + 1 + 1, 1, none⟩ (.slice A2 (limbs z.natAbs).length c2)) :=
    ⟨A2, c2, rfl, (r4.put2 hlw _ _).mono (by omega), below_put2 hbw (by omega) _ _⟩
  clear hbw r3 r4 bw1 bw2 hbW kr l1 l2 k1 k2 k3 k4
  go_wp2
  exact bodyPost_ret (v := .agg #[.bool (decide (z < 0)), .slice A2 (limbs z.natAbs).length c2]) (by simp [results, Try.results77, go_sem, m1, m2]) rfl hret

set_option maxHeartbeats 1000000 in
theorem rIMul_c (p q : Bool) (A B : Option Addr) (xs ys : List Nat) (c d : Nat) (w : World) (ha : Lim w A c xs) (hb : Lim w B d ys) (hs : xs.length + ys.length ≤ 70368744177664) (hsz0 : (limbs (val xs * val ys)).length ≤ 70368744177664) :
    Calls Try.prog 102 #[.agg #[.bool p, .slice A xs.length c], .agg #[.bool q, .slice B ys.length d]] w (RetInt w (iv p xs * iv q ys)) := by
  have EV := Lib.hid (show iv (p != q) (limbs (val xs * val ys)) = iv p xs * iv q ys from (iv_limbs (p != q) _).trans (mkI_mul p q (val xs) (val ys)).symm)
  go_enter Try.func102, Try.ntmps102
  go_wp2_with fail
  obtain ⟨W, hW, hbW, hsz, k, kr⟩ := three_boxes w p q (.slice A xs.length c) (.slice B ys.length d)
  rw [hW]
  clear hW
  have hz : w.heap.size + 3 ≤ W.heap.size := by omega
  clear hsz
  obtain ⟨k1, k2, k3, k4⟩ := k
  go_wp2_with fail
  go_region_held3 (fun w' => w'.cell? ⟨w.heap.size, 0, none⟩ = some (.bool p) ∧ w'.cell? ⟨w.heap.size, 1, none⟩ = some (.slice A xs.length c) ∧ w'.cell? ⟨w.heap.size + 1, 0, none⟩ = some (.bool q) ∧ w'.cell? ⟨w.heap.size + 1, 1, none⟩ = some (.slice B ys.length d))
    (first | exact l1 | exact l2 | exact keep2 (below_put2 (Below.refl (w.heap.size + 1 + 1) w2) (Nat.le_refl _) _ _) (Nat.le_refl _) l2 | go_keep)
    (first
      | (go_at_call 118; refine (rMul_c A B xs ys c d _ ?_ ?_ hs).mono ?_; exact ha.below (below_drewN hbW 1); exact hb.below (below_drewN hbW 1); rintro e w1 ⟨A1, c1, rfl, r3, bw1⟩; have l1 := keep2 bw1 (show w.heap.size + 2 ≤ W.heap.size by omega) ⟨k1, k2, k3, k4⟩)
      | (go_at_call 53; refine (Make_n (p != q) A1 (limbs (val xs * val ys)) c1 _ (iv p xs * iv q ys) r3.lim hsz0 EV.out).mono ?_; rintro e w2 ⟨A2, c2, rfl, r4, bw2⟩; have l2 := keep2 bw2 (Nat.le_trans (show w.heap.size + 2 ≤ W.heap.size by omega) bw1.size) l1; obtain ⟨m1, m2, m3, m4⟩ := keepR (N := w.heap.size + 1 + 1) bw2 (Nat.lt_of_lt_of_le (show w.heap.size + 1 + 1 < W.heap.size by omega) bw1.size) (keepR bw1 (show w.heap.size + 1 + 1 < W.heap.size by omega) kr)))
  have hbw : Below w.heap.size w w2 := ((below_drewN hbW 1).trans (bw1.mono (show w.heap.size ≤ W.heap.size by omega))).trans (bw2.mono (Nat.le_trans (show w.heap.size ≤ W.heap.size by omega) bw1.size))
  have hlw : w.heap.size + 1 + 1 < w1.heap.size := Nat.lt_of_lt_of_le (show w.heap.size + 1 + 1 < W.heap.size by omega) bw1.size
  generalize iv p xs * iv q ys = z at *
  have hret : RetInt w z (.returned (.agg #[.bool (decide (z < 0)), .slice A2 (limbs z.natAbs).length c2]))
      ((w2.setCell ⟨w.heap.size + 1 + 1, 0, none⟩ (.bool (decide (z < 0)))).setCell ⟨w.heap.size + 1 + 1, 1, none⟩ (.slice A2 (limbs z.natAbs).length c2)) :=
    ⟨A2, c2, rfl, (r4.put2 hlw _ _).mono (by omega), below_put2 hbw (by omega) _ _⟩
  clear hbw r3 r4 bw1 bw2 hbW kr l1 l2 k1 k2 k3 k4
  go_wp2
  exact bodyPost_ret (v := .agg #[.bool (decide (z < 0)), .slice A2 (limbs z.natAbs).length c2]) (by simp [results, Try.results102, go_sem, m1, m2]) rfl hret

theorem rNeg_n (p : Bool) (A : Option Addr) (xs : List Nat) (c : Nat) (w : World) (m s : Int) (K : Nat) (ha : Lim w A c xs) (hs : xs.length ≤ K) (hm : iv p xs = m) (h : -m = s) (hK : K ≤ 70368744177664) :
    Calls Try.prog 73 #[.agg #[.bool p, .slice A xs.length c]] w (RetInt w s) := by
  have k := rNeg_c p A xs c w ha (by omega)
  rw [hm, h] at k; exact k
set_option maxHeartbeats 1000000 in
theorem rIAdd_ge (p : Bool) (A B : Option Addr) (xs ys : List Nat) (c d : Nat) (w : World) (ha : Lim w A c xs) (hb : Lim w B d ys) (hs : xs.length < 70368744177664) (ht : ys.length < 70368744177664) (hge : val ys ≤ val xs) :
    Calls Try.prog 77 #[.agg #[.bool p, .slice A xs.length c], .agg #[.bool (!p), .slice B ys.length d]] w (RetInt w (iv p xs + iv (!p) ys)) := by
  have hpp : (p == !p) = false := by cases p <;> rfl
  have EV := Lib.hid (show iv p (limbs (val xs - val ys)) = iv p xs + iv (!p) ys from (iv_limbs p _).trans (mkI_sub p hge).symm)
  have hsz0 : (limbs (val xs - val ys)).length ≤ 70368744177664 := by
    have h1 := limbs_length_le ha.lb
    have h2 := limbs_length_le hb.lb
    have h3 := limbs_mono (Nat.sub_le (val xs) (val ys))
    have h4 := limbs_mono (Nat.sub_le (val ys) (val xs))
    omega
  go_enter Try.func77, Try.ntmps77
  go_wp2_with fail
  obtain ⟨W, hW, hbW, hsz, k, kr⟩ := three_boxes w p (!p) (.slice A xs.length c) (.slice B ys.length d)
  rw [hW]
  clear hW
  have hz : w.heap.size + 3 ≤ W.heap.size := by omega
  clear hsz
  obtain ⟨k1, k2, k3, k4⟩ := k
  go_wp2_with fail
  refine (rSub_ok A B xs ys c d _ (ha.below hbW) (hb.below hbW) (Nat.le_of_lt hs) (Nat.le_of_lt ht) hge).mono ?_
  rintro e w1 ⟨A1, c1, rfl, r3, bW1⟩
  obtain ⟨l1, l2, l3, l4⟩ := keep2 bW1 (show w.heap.size + 2 ≤ W.heap.size by omega) ⟨k1, k2, k3, k4⟩
  go_wp2_with fail
  refine (Make_n p A1 (limbs (val xs - val ys)) c1 _ (iv p xs + iv (!p) ys) r3.lim hsz0 EV.out).mono ?_
  rintro e w2 ⟨A2, c2, rfl, r4, bw2⟩
  have hlw : w.heap.size + 1 + 1 < w1.heap.size := Nat.lt_of_lt_of_le (show w.heap.size + 1 + 1 < W.heap.size by omega) bW1.size
  obtain ⟨m1, m2, m3, m4⟩ := keepR (N := w.heap.size + 1 + 1) bw2 hlw (keepR bW1 (show w.heap.size + 1 + 1 < W.heap.size by omega) kr)
  have hbw : Below w.heap.size w w2 := (hbW.trans (bW1.mono (show w.heap.size ≤ W.heap.size by omega))).trans (bw2.mono (Nat.le_trans (show w.heap.size ≤ W.heap.size by omega) bW1.size))
  generalize iv p xs + iv (!p) ys = z at *
  have hret : RetInt w z (.returned (.agg #[.bool (decide (z < 0)), .slice A2 (limbs z.natAbs).length c2]))
      ((w2.setCell ⟨w.heap.size + 1 + 1, 0, none⟩ (.bool (decide (z < 0)))).setCell ⟨w.heap.size + 1 + 1, 1, none⟩ (.slice A2 (limbs z.natAbs).length c2)) :=
    ⟨A2, c2, rfl, (r4.put2 hlw _ _).mono (by omega), below_put2 hbw (by omega) _ _⟩
  clear hbw r3 r4 bW1 bw2 hbW kr l1 l2 l3 l4 k1 k2 k3 k4
  go_wp2
  exact bodyPost_ret (v := .agg #[.bool (decide (z < 0)), .slice A2 (limbs z.natAbs).length c2]) (by simp [results, Try.results77, go_sem, m1, m2]) rfl hret

set_option maxHeartbeats 1000000 in
theorem rIAdd_lt (p : Bool) (A B : Option Addr) (xs ys : List Nat) (c d : Nat) (w : World) (ha : Lim w A c xs) (hb : Lim w B d ys) (hs : xs.length < 70368744177664) (ht : ys.length < 70368744177664) (hlt : val xs < val ys) :
    Calls Try.prog 77 #[.agg #[.bool p, .slice A xs.length c], .agg #[.bool (!p), .slice B ys.length d]] w (RetInt w (iv p xs + iv (!p) ys)) := by
  have hpp : (p == !p) = false := by cases p <;> rfl
  have EV := Lib.hid (show iv (!p) (limbs (val ys - val xs)) = iv p xs + iv (!p) ys from (iv_limbs (!p) _).trans (mkI_sub' p (Nat.le_of_lt hlt)).symm)
  have hsz0 : (limbs (val ys - val xs)).length ≤ 70368744177664 := by
    have h1 := limbs_length_le ha.lb
    have h2 := limbs_length_le hb.lb
    have h3 := limbs_mono (Nat.sub_le (val xs) (val ys))
    have h4 := limbs_mono (Nat.sub_le (val ys) (val xs))
    omega
  go_enter Try.func77, Try.ntmps77
  go_wp2_with fail
  obtain ⟨W, hW, hbW, hsz, k, kr⟩ := three_boxes w p (!p) (.slice A xs.length c) (.slice B ys.length d)
  rw [hW]
  clear hW
  have hz : w.heap.size + 3 ≤ W.heap.size := by omega
  clear hsz
  obtain ⟨k1, k2, k3, k4⟩ := k
  go_wp2_with fail
  refine (rSub_no A B xs ys c d _ (ha.below hbW) (hb.below hbW) (Nat.le_of_lt hs) (Nat.le_of_lt ht) hlt).mono ?_
  rintro e w0 ⟨rfl, b0⟩
  obtain ⟨i1, i2, i3, i4⟩ := keep2 b0 (show w.heap.size + 2 ≤ W.heap.size by omega) ⟨k1, k2, k3, k4⟩
  go_wp2_with fail
  refine (rSub_ok B A ys xs d c _ ((hb.below hbW).below b0) ((ha.below hbW).below b0) (Nat.le_of_lt ht) (Nat.le_of_lt hs) (Nat.le_of_lt hlt)).mono ?_
  rintro e w1 ⟨A1, c1, rfl, r3, b1⟩
  have bW1 : Below W.heap.size W w1 := b0.trans (b1.mono b0.size)
  obtain ⟨l1, l2, l3, l4⟩ := keep2 bW1 (show w.heap.size + 2 ≤ W.heap.size by omega) ⟨k1, k2, k3, k4⟩
  clear i1 i2 i3 i4 b0 b1
  go_wp2_with fail
  refine (Make_n (!p) A1 (limbs (val ys - val xs)) c1 _ (iv p xs + iv (!p) ys) r3.lim hsz0 EV.out).mono ?_
  rintro e w2 ⟨A2, c2, rfl, r4, bw2⟩
  have hlw : w.heap.size + 1 + 1 < w1.heap.size := Nat.lt_of_lt_of_le (show w.heap.size + 1 + 1 < W.heap.size by omega) bW1.size
  obtain ⟨m1, m2, m3, m4⟩ := keepR (N := w.heap.size + 1 + 1) bw2 hlw (keepR bW1 (show w.heap.size + 1 + 1 < W.heap.size by omega) kr)
  have hbw : Below w.heap.size w w2 := (hbW.trans (bW1.mono (show w.heap.size ≤ W.heap.size by omega))).trans (bw2.mono (Nat.le_trans (show w.heap.size ≤ W.heap.size by omega) bW1.size))
  generalize iv p xs + iv (!p) ys = z at *
  have hret : RetInt w z (.returned (.agg #[.bool (decide (z < 0)), .slice A2 (limbs z.natAbs).length c2]))
      ((w2.setCell ⟨w.heap.size + 1 + 1, 0, none⟩ (.bool (decide (z < 0)))).setCell ⟨w.heap.size + 1 + 1, 1, none⟩ (.slice A2 (limbs z.natAbs).length c2)) :=
    ⟨A2, c2, rfl, (r4.put2 hlw _ _).mono (by omega), below_put2 hbw (by omega) _ _⟩
  clear hbw r3 r4 bW1 bw2 hbW kr l1 l2 l3 l4 k1 k2 k3 k4
  go_wp2
  exact bodyPost_ret (v := .agg #[.bool (decide (z < 0)), .slice A2 (limbs z.natAbs).length c2]) (by simp [results, Try.results77, go_sem, m1, m2]) rfl hret

/-- the sum of integers, by the reference -/
theorem rIAdd_c (p q : Bool) (A B : Option Addr) (xs ys : List Nat) (c d : Nat) (w : World) (ha : Lim w A c xs) (hb : Lim w B d ys) (hs : xs.length < 70368744177664) (ht : ys.length < 70368744177664) (hz : (limbs (val xs + val ys)).length ≤ 70368744177664) :
    Calls Try.prog 77 #[.agg #[.bool p, .slice A xs.length c], .agg #[.bool q, .slice B ys.length d]] w (RetInt w (iv p xs + iv q ys)) := by
  by_cases h : p = q
  · subst h; exact rIAdd_same p A B xs ys c d w ha hb hs ht hz
  · obtain rfl : q = !p := by cases p <;> cases q <;> simp_all
    rcases Nat.lt_or_ge (val xs) (val ys) with hl | hl
    · exact rIAdd_lt p A B xs ys c d w ha hb hs ht hl
    · exact rIAdd_ge p A B xs ys c d w ha hb hs ht hl

theorem rIAdd_m (p q : Bool) (A B : Option Addr) (xs ys : List Nat) (c d : Nat) (w : World) (s : Int) (ha : Lim w A c xs) (hb : Lim w B d ys) (hs : xs.length < 70368744177664) (ht : ys.length < 70368744177664) (hz : (limbs (val xs + val ys)).length ≤ 70368744177664) (h : iv p xs + iv q ys = s) :
    Calls Try.prog 77 #[.agg #[.bool p, .slice A xs.length c], .agg #[.bool q, .slice B ys.length d]] w (RetInt w s) := by
  subst h; exact rIAdd_c p q A B xs ys c d w ha hb hs ht hz

set_option maxHeartbeats 1000000 in
theorem rISub_c (p q : Bool) (A B : Option Addr) (xs ys : List Nat) (c d : Nat) (w : World) (ha : Lim w A c xs) (hb : Lim w B d ys) (hs : xs.length < 70368744177664) (ht : ys.length < 70368744177664) (hz : (limbs (val xs + val ys)).length ≤ 70368744177664) :
    Calls Try.prog 52 #[.agg #[.bool p, .slice A xs.length c], .agg #[.bool q, .slice B ys.length d]] w (RetInt w (iv p xs - iv q ys)) := by
  have ly := limbs_length_le hb.lb
  have en : (- iv q ys).natAbs = val ys := by rw [Int.natAbs_neg, iv_natAbs]
  obtain ⟨y, ey⟩ : ∃ y, - iv q ys = y := ⟨_, rfl⟩
  have es : iv p xs + iv (decide (y < 0)) (limbs y.natAbs) = iv p xs - iv q ys := by rw [iv_canon, ← ey, Int.sub_eq_add_neg]
  rw [ey] at en
  have lz : (limbs y.natAbs).length < 70368744177664 := by rw [en]; omega
  have hz2 : (limbs (val xs + val (limbs y.natAbs))).length ≤ 70368744177664 := by rw [val_limbs, en]; exact hz
  have EY := Lib.hid ey
  have ES := Lib.hid es
  clear ey es en
  go_enter Try.func52, Try.ntmps52
  go_wp2_with fail
  obtain ⟨W, hW, hbW, hsz, k, kr⟩ := three_boxes w p q (.slice A xs.length c) (.slice B ys.length d)
  rw [hW]
  clear hW
  have hzz : w.heap.size + 3 ≤ W.heap.size := by omega
  clear hsz
  obtain ⟨k1, k2, k3, k4⟩ := k
  go_region_held3 (fun w' => w'.cell? ⟨w.heap.size, 0, none⟩ = some (.bool p) ∧ w'.cell? ⟨w.heap.size, 1, none⟩ = some (.slice A xs.length c) ∧ w'.cell? ⟨w.heap.size + 1, 0, none⟩ = some (.bool q) ∧ w'.cell? ⟨w.heap.size + 1, 1, none⟩ = some (.slice B ys.length d))
    (first | exact l1 | exact l2 | exact keep2 (below_put2 (Below.refl (w.heap.size + 1 + 1) w2) (Nat.le_refl _) _ _) (Nat.le_refl _) l2 | go_keep)
    (first
      | (go_at_call 73; refine (rNeg_n q B ys d _ (iv q ys) y 70368744177664 ?_ (Nat.le_of_lt ht) rfl EY.out (Nat.le_refl _)).mono ?_; exact hb.below (below_drewN hbW 1); rintro e w1 ⟨A1, c1, rfl, r3, bw1⟩; have l1 := keep2 bw1 (show w.heap.size + 2 ≤ W.heap.size by omega) ⟨k1, k2, k3, k4⟩)
      | (go_at_call 77; refine (rIAdd_m p (decide (y < 0)) A A1 xs (limbs y.natAbs) c c1 _ (iv p xs - iv q ys) ?_ r3.lim hs lz hz2 ES.out).mono ?_; exact (ha.below (below_drewN hbW 1)).below bw1; rintro e w2 ⟨A2, c2, rfl, r4, bw2⟩; have l2 := keep2 bw2 (Nat.le_trans (show w.heap.size + 2 ≤ W.heap.size by omega) bw1.size) l1; obtain ⟨m1, m2, m3, m4⟩ := keepR (N := w.heap.size + 1 + 1) bw2 (Nat.lt_of_lt_of_le (show w.heap.size + 1 + 1 < W.heap.size by omega) bw1.size) (keepR bw1 (show w.heap.size + 1 + 1 < W.heap.size by omega) kr)))
  have hbw : Below w.heap.size w w2 := ((below_drewN hbW 1).trans (bw1.mono (show w.heap.size ≤ W.heap.size by omega))).trans (bw2.mono (Nat.le_trans (show w.heap.size ≤ W.heap.size by omega) bw1.size))
  have hlw : w.heap.size + 1 + 1 < w1.heap.size := Nat.lt_of_lt_of_le (show w.heap.size + 1 + 1 < W.heap.size by omega) bw1.size
  generalize iv p xs - iv q ys = z at *
  have hret : RetInt w z (.returned (.agg #[.bool (decide (z < 0)), .slice A2 (limbs z.natAbs).length c2]))
      ((w2.setCell ⟨w.heap.size + 1 + 1, 0, none⟩ (.bool (decide (z < 0)))).setCell ⟨w.heap.size + 1 + 1, 1, none⟩ (.slice A2 (limbs z.natAbs).length c2)) :=
    ⟨A2, c2, rfl, (r4.put2 hlw _ _).mono (by omega), below_put2 hbw (by omega) _ _⟩
  clear hbw r3 r4 bw1 bw2 hbW kr l1 l2 k1 k2 k3 k4
  go_wp2
  exact bodyPost_ret (v := .agg #[.bool (decide (z < 0)), .slice A2 (limbs z.natAbs).length c2]) (by simp [results, Try.results52, go_sem, m1, m2]) rfl hret

section
variable (p q : Bool) (A B : Option Addr) (xs ys : List Nat) (c d : Nat) (w : World) (m n s : Int) (K L : Nat)
theorem sum_len {xs ys : List Nat} {K L : Nat} (hx : Lb xs) (hy : Lb ys) (hs : xs.length ≤ K) (ht : ys.length ≤ L) (hK : K < 70368744177664) (hL : L < 70368744177664) : (limbs (val xs + val ys)).length ≤ 70368744177664 := by
  have h1 := limbs_length_le hx
  have h2 := limbs_length_le hy
  have h3 := limbs_add_le (k := 70368744177663) (show (limbs (val xs)).length ≤ _ by omega) (show (limbs (val ys)).length ≤ _ by omega)
  omega
theorem rIAdd_n (ha : Lim w A c xs) (hb : Lim w B d ys) (hs : xs.length ≤ K) (ht : ys.length ≤ L) (hm : iv p xs = m) (hn : iv q ys = n) (h : m + n = s) (hK : K < 70368744177664) (hL : L < 70368744177664) :
    Calls Try.prog 77 #[.agg #[.bool p, .slice A xs.length c], .agg #[.bool q, .slice B ys.length d]] w (RetInt w s) := by
  have k := rIAdd_c p q A B xs ys c d w ha hb (by omega) (by omega) (sum_len ha.lb hb.lb hs ht hK hL)
  rw [hm, hn, h] at k; exact k
theorem rISub_n (ha : Lim w A c xs) (hb : Lim w B d ys) (hs : xs.length ≤ K) (ht : ys.length ≤ L) (hm : iv p xs = m) (hn : iv q ys = n) (h : m - n = s) (hK : K < 70368744177664) (hL : L < 70368744177664) :
    Calls Try.prog 52 #[.agg #[.bool p, .slice A xs.length c], .agg #[.bool q, .slice B ys.length d]] w (RetInt w s) := by
  have k := rISub_c p q A B xs ys c d w ha hb (by omega) (by omega) (sum_len ha.lb hb.lb hs ht hK hL)
  rw [hm, hn, h] at k; exact k
theorem rIMul_n (ha : Lim w A c xs) (hb : Lim w B d ys) (hs : xs.length ≤ K) (ht : ys.length ≤ L) (hm : iv p xs = m) (hn : iv q ys = n) (h : m * n = s) (hK : K + L ≤ 70368744177664) :
    Calls Try.prog 102 #[.agg #[.bool p, .slice A xs.length c], .agg #[.bool q, .slice B ys.length d]] w (RetInt w s) := by
  have h1 := limbs_mul_le (val xs) (val ys)
  have h2 := limbs_length_le ha.lb
  have h3 := limbs_length_le hb.lb
  have k := rIMul_c p q A B xs ys c d w ha hb (by omega) (by omega)
  rw [hm, hn, h] at k; exact k
end
theorem rAbs_n (p : Bool) (A : Option Addr) (xs : List Nat) (c : Nat) (w : World) (m s : Int) (K : Nat) (ha : Lim w A c xs) (hs : xs.length ≤ K) (hm : iv p xs = m) (h : ((m.natAbs : Nat) : Int) = s) (hK : K ≤ 70368744177664) :
    Calls Try.prog 13 #[.agg #[.bool p, .slice A xs.length c]] w (RetInt w s) := by
  have k := rAbs_c p A xs c w ha (by omega)
  rw [← h, ← hm, iv_natAbs]; exact k
theorem iabs_sz {m s : Int} {k : Nat} (hm : (limbs m.natAbs).length ≤ k) (h : ((m.natAbs : Nat) : Int) = s) : (limbs s.natAbs).length ≤ k := by
  subst h; simpa using hm
theorem INorm_n (p : Bool) (A : Option Addr) (xs : List Nat) (c : Nat) (w : World) (s : Int) (K : Nat) (ha : Lim w A c xs) (hs : xs.length ≤ K) (hm : iv p xs = s) (hK : K ≤ 70368744177664) :
    Calls Try.prog 92 #[.agg #[.bool p, .slice A xs.length c]] w (RetInt w s) := by
  have k := INorm_c p A xs c w ha (by omega)
  rw [hm] at k; exact k

/- Contracts of package integer: numbers of the language. -/

set_option maxHeartbeats 400000 in
theorem FromInt_c (v : Int) (w : World) (h1 : -9223372036854775808 ≤ v) (h2 : v ≤ 9223372036854775807) :
    Calls Try.prog 67 #[.int .i64 v] w (RetInt w v) := by
  have hB : Ba * Ba = 18446744073709551616 := by decide
  obtain ⟨W, hW, hbW, hsz, kr⟩ := one_box w (.bool false) (.slice none 0 0)
  have hz : w.heap.size + 1 ≤ W.heap.size := by omega
  clear hsz
  have HW := Lib.hid hW
  clear hW
  by_cases h0 : v < 0
  · obtain ⟨m, hm⟩ : ∃ m : Nat, -v = (m : Int) := ⟨(-v).toNat, by omega⟩
    have hm2 : m < Ba * Ba := by omega
    have HM := Lib.hid hm
    clear hm hB
    go_enter Try.func67, Try.ntmps67
    go_wp2_with fail
    rw [HW.out, show IntKind.u64.wrap (-IntKind.u64.wrap v) = (m : Int) from by rw [IntKind.wrap_u64, IntKind.wrap_u64]; have := HM.out; omega]
    refine (FromUint64_c m _ hm2).mono ?_
    rintro e w1 ⟨A1, c1, rfl, r3, bw1⟩
    obtain ⟨m1, m2, m3, m4⟩ := keepR bw1 (show w.heap.size < W.heap.size by omega) kr
    go_wp2_with fail
    refine (signed_c true A1 _ c1 _).mono ?_
    rintro e w2 ⟨rfl, bw2⟩
    obtain ⟨n1, n2, n3, n4⟩ := keepR bw2 (Nat.lt_of_lt_of_le (show w.heap.size < W.heap.size by omega) bw1.size) ⟨m1, m2, m3, m4⟩
    have hbw : Below w.heap.size w w2 := (hbW.trans (bw1.mono (show w.heap.size ≤ W.heap.size by omega))).trans (bw2.mono (Nat.le_trans (show w.heap.size ≤ W.heap.size by omega) bw1.size))
    have hown := ((r3.below bw2).put2 (N := w.heap.size) (show w.heap.size < W.heap.size by omega) (.bool (true && decide (0 < (limbs m).length))) (.slice A1 (limbs m).length c1)).mono (show w.heap.size ≤ W.heap.size by omega)
    have hret := ret_signed (p := true) (n := v) (by unfold mkI; have := HM.out; simp; omega) hown (below_put2 hbw (Nat.le_refl _) _ _)
    clear hown hbw r3 bw1 bw2 hbW kr m1 m2 m3 m4
    have hlp : (true && decide (0 < (limbs m).length)) = true := by
      have : limbs m ≠ [] := fun e => by have := limbs_eq_nil.1 e; have := HM.out; omega
      simp [List.length_pos_iff, this]
    rw [hlp] at hret ⊢
    clear hlp
    go_wp2
    exact bodyPost_ret (v := .agg #[.bool true, .slice A1 (limbs m).length c1]) (by simp [results, Try.results67, go_sem, n1, n2]) rfl hret
  · obtain ⟨m, hm⟩ : ∃ m : Nat, v = (m : Int) := ⟨v.toNat, by omega⟩
    have hm2 : m < Ba * Ba := by omega
    have HM := Lib.hid hm
    clear hm hB
    go_enter Try.func67, Try.ntmps67
    go_wp2_with fail
    rw [HW.out, show v = (m : Int) from by exact HM.out]
    refine (FromUint64_c m _ hm2).mono ?_
    rintro e w1 ⟨A1, c1, rfl, r3, bw1⟩
    obtain ⟨m1, m2, m3, m4⟩ := keepR bw1 (show w.heap.size < W.heap.size by omega) kr
    go_wp2_with fail
    refine (signed_c false A1 _ c1 _).mono ?_
    rintro e w2 ⟨rfl, bw2⟩
    obtain ⟨n1, n2, n3, n4⟩ := keepR bw2 (Nat.lt_of_lt_of_le (show w.heap.size < W.heap.size by omega) bw1.size) ⟨m1, m2, m3, m4⟩
    have hbw : Below w.heap.size w w2 := (hbW.trans (bw1.mono (show w.heap.size ≤ W.heap.size by omega))).trans (bw2.mono (Nat.le_trans (show w.heap.size ≤ W.heap.size by omega) bw1.size))
    have hown := ((r3.below bw2).put2 (N := w.heap.size) (show w.heap.size < W.heap.size by omega) (.bool (false && decide (0 < (limbs m).length))) (.slice A1 (limbs m).length c1)).mono (show w.heap.size ≤ W.heap.size by omega)
    have hret := ret_signed (p := false) (n := v) (by unfold mkI; have := HM.out; simp; omega) hown (below_put2 hbw (Nat.le_refl _) _ _)
    clear hown hbw r3 bw1 bw2 hbW kr m1 m2 m3 m4
    rw [Bool.false_and] at hret ⊢
    go_wp2
    exact bodyPost_ret (v := .agg #[.bool false, .slice A1 (limbs m).length c1]) (by simp [results, Try.results67, go_sem, n1, n2]) rfl hret

/-- does an integer fit into an int -/
def fits (n : Int) : Bool := decide (-9223372036854775808 ≤ n ∧ n ≤ 9223372036854775807)
/-- what Value returns -/
def RetVal (w : World) (n : Int) (e : Ending) (w' : World) : Prop := e = .returned (.tuple #[.int .i64 (if fits n then n else 0), .bool (fits n)]) ∧ Below w.heap.size w w'
theorem retval_yes {w w' : World} {n : Int} (h : -9223372036854775808 ≤ n ∧ n ≤ 9223372036854775807) (hb : Below w.heap.size w w') : RetVal w n (.returned (.tuple #[.int .i64 n, .bool true])) w' := by
  have : fits n = true := decide_eq_true h
  exact ⟨by rw [this]; rfl, hb⟩
theorem retval_no {w w' : World} {n : Int} (h : ¬ (-9223372036854775808 ≤ n ∧ n ≤ 9223372036854775807)) (hb : Below w.heap.size w w') : RetVal w n (.returned (.tuple #[.int .i64 0, .bool false])) w' := by
  have : fits n = false := decide_eq_false h
  exact ⟨by rw [this]; rfl, hb⟩


/- Contracts of the references of layers 1 and 2: numbers of 64 bits, sign, comparison, numbers of the language. -/

set_option maxHeartbeats 400000 in
theorem rUint64_yes (A : Option Addr) (xs : List Nat) (c : Nat) (w : World) (h : Lim w A c xs) (hs : xs.length ≤ 70368744177664) (hv : val xs < Ba * Ba) :
    Calls Try.prog 115 #[.slice A xs.length c] w fun e w' => e = .returned (.tuple #[.int .u64 (val xs : Nat), .bool true]) ∧ Below w.heap.size w w' := by
  go_enter Try.func115, Try.ntmps115
  go_wp2_with fail
  refine (rTrim_c _ _ _ _ h hs).mono ?_
  rintro e w1 ⟨A1, c1, rfl, r1, b1⟩
  have h2 := limbs_two.2 hv
  have EV := Lib.hid (val_limbs (val xs))
  have hl := r1.lim
  have HB := Lib.hid b1
  clear hv h r1 b1
  generalize limbs (val xs) = us at *
  go_wp2_with fail
  go_loop [4, 5] (fun t i => ∃ k : Nat, k ≤ us.length ∧ i = .int .i64 ((k : Int) - 1) ∧ t = .int .u64 (val (us.drop k) : Nat)) (fun _ i => (intOf i + 1).toNat)
  case atStart => exact ⟨us.length, Nat.le_refl _, rfl, by simp [val]⟩
  case round =>
    obtain ⟨k, hk, ht, rfl⟩ := hrel
    rcases Nat.eq_zero_or_pos k with rfl | hp
    · subst ht
      rw [List.drop_zero]
      have e2 := EV.out
      rw [e2]
      clear e2
      go_wp2
      go_ret2
      exact ⟨rfl, HB.out⟩
    · obtain ⟨m, rfl⟩ : ∃ m, k = m + 1 := ⟨k - 1, by omega⟩
      obtain rfl := ht.trans (show Value.int .i64 (((m + 1 : Nat) : Int) - 1) = .int .i64 (m : Int) by congr 1; omega)
      obtain ⟨b, off, rfl, hb, hcell⟩ := hl.at_ (by omega)
      have hx := hcell m (by omega)
      have bx : us[m]?.getD 0 < 4294967296 := hl.lb.get m
      have hd := val_drop (xs := us) (k := m) (by omega)
      have bv : val (us.drop (m + 1)) < 4294967296 := by
        have h3 := val_lt (hl.lb.drop (m + 1))
        have h4 : (us.drop (m + 1)).length ≤ 1 := by simp; omega
        have h5 : Ba ^ (us.drop (m + 1)).length ≤ Ba ^ 1 := Nat.pow_le_pow_right Ba_pos h4
        have h6 : Ba ^ 1 = 4294967296 := by decide
        omega
      obtain ⟨x, ex⟩ : ∃ x, us[m]?.getD 0 = x := ⟨_, rfl⟩
      obtain ⟨v, ev⟩ : ∃ v, val (us.drop (m + 1)) = v := ⟨_, rfl⟩
      rw [ex] at hx bx hd
      rw [ev] at bv hd ⊢
      have HD := Lib.hid hd
      have EX := Lib.hid ev
      clear ex ev hd hcell
      go_wp2
      go_round
      case rel => exact ⟨m, by omega, rfl, by rw [HD.out, or_hi' x v bx bv]; rfl⟩
      case measure => simp [intOf]; try omega

set_option maxHeartbeats 400000 in
theorem rUint64_no (A : Option Addr) (xs : List Nat) (c : Nat) (w : World) (h : Lim w A c xs) (hs : xs.length ≤ 70368744177664) (hv : Ba * Ba ≤ val xs) :
    Calls Try.prog 115 #[.slice A xs.length c] w fun e w' => e = .returned (.tuple #[.int .u64 0, .bool false]) ∧ Below w.heap.size w w' := by
  go_enter Try.func115, Try.ntmps115
  go_wp2_with fail
  refine (rTrim_c _ _ _ _ h hs).mono ?_
  rintro e w1 ⟨A1, c1, rfl, r1, b1⟩
  have h2 : (2 : Int) < ((limbs (val xs)).length : Int) := by
    have : ¬ (limbs (val xs)).length ≤ 2 := fun h => by have := limbs_two.1 h; omega
    omega
  go_wp2_with fail
  go_ret2
  exact ⟨rfl, b1⟩

set_option maxHeartbeats 400000 in
theorem rSign_c (p : Bool) (A : Option Addr) (xs : List Nat) (c : Nat) (w : World) (h : Lim w A c xs) (hs : xs.length ≤ 70368744177664) :
    Calls Try.prog 51 #[.agg #[.bool p, .slice A xs.length c]] w (RetI w (sgn (iv p xs))) := by
  obtain ⟨n, en⟩ : ∃ n, iv p xs = n := ⟨_, rfl⟩
  rw [en]
  go_enter Try.func51, Try.ntmps51
  go_wp2_with fail
  obtain ⟨W, hW, hbW, hsz, kr⟩ := one_box w (.bool p) (.slice A xs.length c)
  rw [hW]
  clear hW
  have hz : w.heap.size < W.heap.size := by omega
  clear hsz
  refine (rNorm_n p A xs c _ n 70368744177664 (h.below hbW) hs en (Nat.le_refl _)).mono ?_
  rintro e w1 ⟨A1, c1, rfl, r1, b1⟩
  obtain ⟨m1, m2, m3, m4⟩ := keepR b1 hz kr
  have hfin : Below w.heap.size w ((w1.setCell ⟨w.heap.size, 0, none⟩ (.bool (decide (n < 0)))).setCell ⟨w.heap.size, 1, none⟩ (.slice A1 (limbs n.natAbs).length c1)) := below_put2 (hbW.trans (b1.mono hbW.size)) (Nat.le_refl _) _ _
  clear r1 b1 hbW kr h en
  have hln : (limbs n.natAbs).length = 0 ↔ n = 0 := by
    rw [List.length_eq_zero_iff, limbs_eq_nil]; omega
  rcases Int.lt_trichotomy n 0 with h0 | h0 | h0
  · have hd : decide (n < 0) = true := by simp [h0]
    rw [hd] at hfin ⊢
    have hsn : sgn n = -1 := by unfold sgn; rw [if_pos h0]
    have HS := Lib.hid hsn
    clear hd hln hsn
    go_wp2
    go_ret
    exact ⟨by rw [HS.out]; rfl, hfin⟩
  · subst h0
    have hd : decide ((0 : Int) < 0) = false := by simp
    have hl0 : (limbs (Int.natAbs 0)).length = 0 := hln.2 rfl
    rw [hd, hl0] at hfin ⊢
    have hsn : sgn 0 = 0 := by unfold sgn; simp
    have HS := Lib.hid hsn
    clear hd hln hsn hl0
    go_wp2
    go_ret
    exact ⟨by rw [HS.out]; rfl, hfin⟩
  · have hd : decide (n < 0) = false := by simp; omega
    rw [hd] at hfin ⊢
    have hsn : sgn n = 1 := by unfold sgn; rw [if_neg (by omega), if_pos h0]
    have HS := Lib.hid hsn
    have hne : (((limbs n.natAbs).length : Int) == 0) = false := by
      rw [beq_eq_false_iff_ne]
      intro e
      have := hln.1 (by omega)
      omega
    generalize (limbs n.natAbs).length = k at *
    clear hd hln hsn
    go_wp2
    go_ret
    exact ⟨by rw [HS.out]; rfl, hfin⟩

theorem rSign_k (n : Int) (A : Option Addr) (c : Nat) (w : World) (h : Lim w A c (limbs n.natAbs)) (hs : (limbs n.natAbs).length ≤ 70368744177664) :
    Calls Try.prog 51 #[.agg #[.bool (decide (n < 0)), .slice A (limbs n.natAbs).length c]] w (RetI w (sgn n)) := by
  have k := rSign_c (decide (n < 0)) A (limbs n.natAbs) c w h hs
  rw [iv_canon] at k; exact k

set_option maxHeartbeats 400000 in
theorem rICompare_c (p q : Bool) (A B : Option Addr) (xs ys : List Nat) (c d : Nat) (w : World) (K : Nat) (ha : Lim w A c xs) (hb : Lim w B d ys) (hs : xs.length ≤ K) (ht : ys.length ≤ K) (hK : K < 70368744177664) :
    Calls Try.prog 12 #[.agg #[.bool p, .slice A xs.length c], .agg #[.bool q, .slice B ys.length d]] w (RetI w (cmpI (iv p xs) (iv q ys))) := by
  obtain ⟨s, es⟩ : ∃ s, iv p xs - iv q ys = s := ⟨_, rfl⟩
  have hz := isub_sz (j := K + 1) (iv_len (p := p) ha.lb hs) (iv_len (p := q) hb.lb ht) es (Nat.le_refl _) (Nat.le_refl _)
  have EC := Lib.hid (show sgn s = cmpI (iv p xs) (iv q ys) by rw [← es]; exact cmpI_sgn _ _)
  have ES := Lib.hid es
  clear es
  go_enter Try.func12, Try.ntmps12
  go_wp2_with fail
  obtain ⟨W, hW, hbW, hsz, t0, t1, t2, t3⟩ := two_boxes w p q (.slice A xs.length c) (.slice B ys.length d)
  rw [hW]
  clear hW hsz
  refine (rISub_n p q A B xs ys c d W _ _ s K K (ha.below hbW) (hb.below hbW) hs ht rfl rfl ES.out hK hK).mono ?_
  rintro e w1 ⟨A1, c1, rfl, r1, b1⟩
  go_wp2_with fail
  refine (rSign_k s A1 c1 w1 r1.lim (by omega)).mono ?_
  rintro e w2 ⟨rfl, b2⟩
  rw [EC.out]
  go_wp2
  go_ret
  exact ⟨rfl, (hbW.trans (b1.mono hbW.size)).trans (b2.mono (Nat.le_trans hbW.size b1.size))⟩


end Go.Proofs.Ytaeidephegnkdaa
