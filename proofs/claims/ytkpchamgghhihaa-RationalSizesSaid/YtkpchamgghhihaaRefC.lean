/- Contracts of the reference of layer 1: comparison, sums, differences, products. -/
import Derived.Test.YtkpchamgghhihaaRefA
namespace Go.Proofs.Ytkpchamgghhihaa
open Go.RowKit Gm

/-- what a comparison returns -/
def RetI1 (w : World) (n : Int) (e : Ending) (w' : World) : Prop := e = .returned (.int .i64 n) ∧ Below w.heap.size w w'

set_option maxHeartbeats 400000 in
theorem rCompare_c (A B : Option Addr) (xs ys : List Nat) (c d : Nat) (w : World) (ha : Lim w A c xs) (hb : Lim w B d ys) (hs : xs.length ≤ 70368744177664) (ht : ys.length ≤ 70368744177664) :
    Calls Try.prog 123 #[.slice A xs.length c, .slice B ys.length d] w (RetI1 w (cmpN (val xs) (val ys))) := by
  have hc := ha.cap
  have hm := ha.max
  have hd := hb.cap
  have hn := hb.max
  go_enter Try.func123, Try.ntmps123
  go_wp2_with fail
  refine (rTrim_c _ _ _ _ ha hs).mono ?_
  rintro e w1 ⟨A1, c1, rfl, r1, b1⟩
  go_wp2_with fail
  refine (rTrim_c _ _ _ _ (hb.below b1) ht).mono ?_
  rintro e w2 ⟨A2, c2, rfl, r2, b2⟩
  have la := limbs_length_le ha.lb
  have lb := limbs_length_le hb.lb
  have hbel : Below w.heap.size w w2 := b1.trans (b2.mono b1.size)
  have HB := Lib.hid hbel
  clear hc hm hd hn ha hb
  have ha := r1.lim.below b2
  have hb := r2.lim
  have hc := ha.cap
  have hm := ha.max
  have hd := hb.cap
  have hn := hb.max
  clear r1 r2 b1 b2 hbel
  have ea := val_limbs (val xs)
  have eb := val_limbs (val ys)
  have EA := Lib.hid ea
  have EB := Lib.hid eb
  clear ea eb
  have HLT := Lib.hid (@limbs_lt_length (val xs) (val ys))
  have HGT := Lib.hid (@limbs_lt_length (val ys) (val xs))
  generalize limbs (val xs) = us at *
  generalize limbs (val ys) = vs at *
  by_cases hne : us.length = vs.length
  · have hb1 : ((us.length : Int) != (vs.length : Int)) = false := by simp [hne]
    have HN := Lib.hid hne
    clear hne
    go_wp2_with fail
    go_loopw [5] (fun t wr => ∃ k : Nat, k ≤ us.length ∧ t = .int .i64 ((k : Int) - 1) ∧ val (us.drop k) = val (vs.drop k) ∧ ∃ n, wr = w2.drewN n) (fun t _ => (intOf t + 1).toNat)
    case atStart => exact ⟨us.length, Nat.le_refl _, rfl, by rw [List.drop_length, HN.out, List.drop_length], 0, rfl⟩
    case round =>
      obtain ⟨k, hk, ht, hv, n, rfl⟩ := hrel
      have HV := Lib.hid hv
      clear hv
      rcases Nat.eq_zero_or_pos k with rfl | hp
      · subst ht
        go_wp2
        go_ret
        exact ⟨by rw [cmpN_eq (by rw [← EA.out, ← EB.out]; exact HV.out)]; rfl, below_drewN HB.out n⟩
      · obtain ⟨m, rfl⟩ : ∃ m, k = m + 1 := ⟨k - 1, by omega⟩
        obtain rfl := ht.trans (show Value.int .i64 (((m + 1 : Nat) : Int) - 1) = .int .i64 (m : Int) by congr 1; omega)
        have e2 := HN.out
        have hm2 : m < vs.length := by omega
        clear e2
        have lba := ha.lb
        have lbb := hb.lb
        obtain ⟨b1, o1, rfl, hb1', hc1⟩ := ha.at_ (by omega)
        obtain ⟨b2, o2, rfl, hb2', hc2⟩ := hb.at_ (by omega)
        have hx := hc1 m (by omega)
        have hy := hc2 m (by omega)
        clear hc1 hc2 ha hb
        obtain ⟨x, ex⟩ : ∃ x, us[m]?.getD 0 = x := ⟨_, rfl⟩
        obtain ⟨y, ey⟩ : ∃ y, vs[m]?.getD 0 = y := ⟨_, rfl⟩
        rw [ex] at hx
        rw [ey] at hy
        have EX := Lib.hid ex
        have EY := Lib.hid ey
        clear ex ey
        have i0 : (0 : Int) ≤ (m : Int) := by omega
        have i1 : (m : Int) < us.length := by omega
        have i2 : (m : Int) < vs.length := by omega
        rcases Nat.lt_trichotomy x y with hl | hl | hl
        · go_wp2
          go_quiet (fail)
          go_wp2
          go_ret
          exact ⟨by rw [cmpN_lt (by rw [← EA.out, ← EB.out]; exact cmp_lt lba (by omega) hm2 HV.out (by rw [EX.out, EY.out]; exact hl))]; rfl, below_drewN (below_drewN HB.out _) _⟩
        · subst hl
          go_wp2
          go_quiet (fail)
          go_wp2
          go_quiet (fail)
          go_wp2
          go_roundw
          case rel => exact ⟨m, by omega, rfl, drop_eq_step (by omega) hm2 HV.out (by rw [EX.out, EY.out]), _, rfl⟩
          case measure => simp [intOf]
        · go_wp2
          go_quiet (fail)
          go_wp2
          go_quiet (fail)
          go_wp2
          go_ret
          exact ⟨by rw [cmpN_gt (by rw [← EA.out, ← EB.out]; exact cmp_lt lbb hm2 (by omega) HV.out.symm (by rw [EX.out, EY.out]; exact hl))]; rfl, below_drewN (below_drewN (below_drewN HB.out _) _) _⟩
  · rcases Nat.lt_or_gt_of_ne hne with hl | hl
    · have hb1 : ((us.length : Int) != (vs.length : Int)) = true := by simp; omega
      go_wp2_with fail
      go_ret
      exact ⟨by rw [cmpN_lt (HLT.out hl)]; rfl, HB.out⟩
    · have hb1 : ((us.length : Int) != (vs.length : Int)) = true := by simp; omega
      have hb2 : ¬ ((us.length : Int) < (vs.length : Int)) := by omega
      go_wp2_with fail
      go_ret
      exact ⟨by rw [cmpN_gt (HGT.out hl)]; rfl, HB.out⟩
/-- what a round of the sum does -/
def RAdd (xs ys : List Nat) (w : World) (N : Nat) (t i : Value) (wr : World) : Prop :=
  ∃ (k q : Nat) (zs : List Nat), k ≤ N + 1 ∧ i = .int .i64 k ∧ t = .int .u64 q ∧ q ≤ 1 ∧ zs.length = N + 1 ∧ Lb zs ∧ Row wr w.heap.size zs ∧ Below w.heap.size w wr ∧ (∀ j, k ≤ j → zs[j]?.getD 0 = 0) ∧ val zs + Ba ^ k * q = val (xs.take k) + val (ys.take k)
theorem radd_start (xs ys : List Nat) (w : World) (N : Nat) : RAdd xs ys w N (.int .u64 0) (.int .i64 0) (w.alloc (.cells (cellsOf (zeros (N + 1))) 24)) :=
  ⟨0, 0, zeros (N + 1), Nat.zero_le _, rfl, rfl, by omega, zeros_length _, zeros_lb _, Row.new _ _, (Below.refl _ _).alloc (Nat.le_refl _) _, fun j _ => zeros_get _ _, by simp [zeros_val, val]⟩
theorem radd_next {xs ys zs : List Nat} {w wr : World} {N k q : Nat} {a b : Int} (hx : Lb xs) (hy : Lb ys) (hk : k < N + 1) (hq : q ≤ 1) (hl : zs.length = N + 1) (hz : Lb zs) (hrow : Row wr w.heap.size zs) (hbel : Below w.heap.size w wr) (h0 : ∀ j, k ≤ j → zs[j]?.getD 0 = 0)
    (hv : val zs + Ba ^ k * q = val (xs.take k) + val (ys.take k)) (ha : a = (((q + xs[k]?.getD 0 + ys[k]?.getD 0) % Ba : Nat) : Int)) (hb : b = (((q + xs[k]?.getD 0 + ys[k]?.getD 0) / Ba : Nat) : Int)) :
    RAdd xs ys w N (.int .u64 b) (.int .i64 ((k : Int) + 1)) (wr.setCell ⟨w.heap.size, k, none⟩ (.int .u32 a)) := by
  have h1 := hx.get k
  have h2 := hy.get k
  have h3 : (q + xs[k]?.getD 0 + ys[k]?.getD 0) / Ba < 2 := Nat.div_lt_of_lt_mul (by omega)
  exact ⟨k + 1, _, zs.set k ((q + xs[k]?.getD 0 + ys[k]?.getD 0) % Ba), by omega, by congr 1, by rw [hb], by omega, by rw [List.length_set]; exact hl, hz.set _ _ (Nat.mod_lt _ Ba_pos), hrow.put k _ ha, hbel.setCell (Nat.le_refl _) _, zeros_step h0, add_step (by omega) h0 hv⟩
theorem radd_end {xs ys zs : List Nat} {N q : Nat} (hx : Lb xs) (hy : Lb ys) (hxn : xs.length ≤ N) (hyn : ys.length ≤ N) (hl : zs.length = N + 1) (hz : Lb zs) (hv : val zs + Ba ^ (N + 1) * q = val (xs.take (N + 1)) + val (ys.take (N + 1))) : val zs = val xs + val ys := by
  rw [List.take_of_length_le (by omega), List.take_of_length_le (by omega)] at hv
  have h2 := val_lt hz
  rw [hl] at h2
  have h3 : val xs < Ba ^ N := Nat.lt_of_lt_of_le (val_lt hx) (Nat.pow_le_pow_right Ba_pos hxn)
  have h4 : val ys < Ba ^ N := Nat.lt_of_lt_of_le (val_lt hy) (Nat.pow_le_pow_right Ba_pos hyn)
  have h9 : Ba ^ N * 2 ≤ Ba ^ (N + 1) := by rw [Nat.pow_succ]; exact Nat.mul_le_mul_left _ (by decide)
  have h5 : 0 < q → Ba ^ (N + 1) ≤ Ba ^ (N + 1) * q := fun h => Nat.le_mul_of_pos_right _ h
  have h6 : q = 0 → Ba ^ (N + 1) * q = 0 := fun h => by rw [h, Nat.mul_zero]
  generalize Ba ^ (N + 1) * q = T at *
  generalize Ba ^ (N + 1) = R at *
  generalize Ba ^ N = S at *
  rcases Nat.eq_zero_or_pos q with hq0 | hq0
  · have := h6 hq0; omega
  · have := h5 hq0; omega
theorem mod_small {q : Nat} (h : q ≤ 1) : (q : Int) = ((q % Ba : Nat) : Int) ∧ (q : Int) / 4294967296 = ((q / Ba : Nat) : Int) := by
  have : q < Ba := Nat.lt_of_le_of_lt h (by decide)
  refine ⟨by rw [Nat.mod_eq_of_lt this], (Int.natCast_ediv q Ba).symm⟩
theorem mod_div_cast (n : Nat) : (n : Int) % 4294967296 = ((n % Ba : Nat) : Int) ∧ (n : Int) / 4294967296 = ((n / Ba : Nat) : Int) := by
  have h : ∀ b : Nat, (n : Int) % (b : Int) = ((n % b : Nat) : Int) ∧ (n : Int) / (b : Int) = ((n / b : Nat) : Int) := fun b => ⟨(Int.natCast_emod n b).symm, (Int.natCast_ediv n b).symm⟩
  exact h Ba

set_option maxHeartbeats 1000000 in
theorem rAdd_ge (A B : Option Addr) (xs ys : List Nat) (c d : Nat) (w : World) (ha : Lim w A c xs) (hb : Lim w B d ys) (hs : xs.length < 70368744177664) (ht : ys.length < 70368744177664) (hle : ys.length ≤ xs.length) :
    Calls Try.prog 110 #[.slice A xs.length c, .slice B ys.length d] w (RetNat w (val xs + val ys)) := by
  have hmk := mk_run (↑xs.length + 1) (xs.length + 1) (by omega) (by omega)
  have hle2 : ¬ ((xs.length : Int) < ys.length) := by omega
  go_enter Try.func110, Try.ntmps110
  go_wp2_with fail
  go_loopw [6, 7] (fun t i wr => RAdd xs ys w xs.length t i wr) (fun _ i _ => xs.length + 1 - (intOf i).toNat)
  case atStart => exact radd_start xs ys w xs.length
  case round =>
    obtain ⟨k, q, zs, hk, rfl, rfl, hq, hl, hz, hrow, hbel, h0, hv⟩ := hrel
    have HV := Lib.hid hv
    have H0 := Lib.hid h0
    have HL := Lib.hid hl
    clear hv h0 hl hmk
    by_cases hlt : k < xs.length + 1
    · have hs1 := hrow.cell (i := k) (by rw [HL.out]; omega)
      have hs2 := hrow.frozen k
      rw [H0.out k (Nat.le_refl _)] at hs1
      have bx : xs[k]?.getD 0 < 4294967296 := ha.lb.get k
      have bY : ys[k]?.getD 0 < 4294967296 := hb.lb.get k
      have x0 : ¬ k < xs.length → xs[k]?.getD 0 = 0 := fun h => by rw [List.getElem?_eq_none (by omega)]; rfl
      have y0 : ¬ k < ys.length → ys[k]?.getD 0 = 0 := fun h => by rw [List.getElem?_eq_none (by omega)]; rfl
      by_cases hxk : k < xs.length
      · clear x0
        by_cases hyk : k < ys.length
        · obtain ⟨x, ex⟩ : ∃ x, xs[k]?.getD 0 = x := ⟨_, rfl⟩
          rw [ex] at bx
          have EX := Lib.hid ex
          clear ex
          obtain ⟨y, ey⟩ : ∃ y, ys[k]?.getD 0 = y := ⟨_, rfl⟩
          rw [ey] at bY
          have EY := Lib.hid ey
          clear ey y0
          obtain ⟨b1, o1, rfl, hb1, hc1⟩ := ha.at_ (by omega)
          have hx := (hbel.cell (p := ⟨b1, o1 + k, none⟩) hb1).trans (hc1 k hxk)
          rw [EX.out] at hx
          clear hc1
          obtain ⟨b2, o2, rfl, hb2, hc2⟩ := hb.at_ (by omega)
          have hy := (hbel.cell (p := ⟨b2, o2 + k, none⟩) hb2).trans (hc2 k hyk)
          rw [EY.out] at hy
          clear hc2
          have NXT := fun (a b : Int) => @radd_next xs ys zs w wr xs.length k q a b ha.lb hb.lb hlt hq HL.out hz hrow hbel H0.out HV.out
          rw [EX.out, EY.out] at NXT
          have md := mod_div_cast (q + x + y)
          have ec : ((q + x + y : Nat) : Int) = (q : Int) + x + y := by omega
          rw [ec] at md
          have nx := NXT _ _ md.1 md.2
          clear md ec
          have NX := Lib.hid nx
          clear NXT nx
          go_wp2
          go_roundw
          case rel => exact NX.out
          case measure => simp [intOf]; omega
        · obtain ⟨x, ex⟩ : ∃ x, xs[k]?.getD 0 = x := ⟨_, rfl⟩
          rw [ex] at bx
          have EX := Lib.hid ex
          clear ex
          have EY := Lib.hid (y0 hyk)
          clear y0 bY
          obtain ⟨b1, o1, rfl, hb1, hc1⟩ := ha.at_ (by omega)
          have hx := (hbel.cell (p := ⟨b1, o1 + k, none⟩) hb1).trans (hc1 k hxk)
          rw [EX.out] at hx
          clear hc1
          have hyk' : ¬ ((k : Int) < ys.length) := by omega
          have NXT := fun (a b : Int) => @radd_next xs ys zs w wr xs.length k q a b ha.lb hb.lb hlt hq HL.out hz hrow hbel H0.out HV.out
          rw [EX.out, EY.out] at NXT
          have md := mod_div_cast (q + x + 0)
          have ec : ((q + x + 0 : Nat) : Int) = (q : Int) + x := by omega
          rw [ec] at md
          have nx := NXT _ _ md.1 md.2
          clear md ec
          have NX := Lib.hid nx
          clear NXT nx
          go_wp2
          go_roundw
          case rel => exact NX.out
          case measure => simp [intOf]; omega
      · by_cases hyk : k < ys.length
        · exfalso; omega
        · have EX := Lib.hid (x0 hxk)
          clear x0 bx
          have EY := Lib.hid (y0 hyk)
          clear y0 bY
          have hxk' : ¬ ((k : Int) < xs.length) := by omega
          have hyk' : ¬ ((k : Int) < ys.length) := by omega
          have NXT := fun (a b : Int) => @radd_next xs ys zs w wr xs.length k q a b ha.lb hb.lb hlt hq HL.out hz hrow hbel H0.out HV.out
          rw [EX.out, EY.out] at NXT
          have nx := NXT _ _ (mod_small hq).1 (mod_small hq).2
          have NX := Lib.hid nx
          clear NXT nx
          go_wp2
          go_roundw
          case rel => exact NX.out
          case measure => simp [intOf]; omega
    · obtain rfl : k = xs.length + 1 := by omega
      have HVAL := Lib.hid (radd_end ha.lb hb.lb (by omega) (by omega) HL.out hz HV.out)
      have hown := hrow.own hz (Nat.le_refl _) (by have := HL.out; omega)
      go_wp2_with fail
      have e1 := HL.out
      rw [← e1]
      clear e1
      refine (rTrim_c _ zs _ _ hown.lim (by have := HL.out; omega)).mono ?_
      rintro e w' ⟨A', c', rfl, r3, r4⟩
      rw [HVAL.out] at r3 ⊢
      go_wp2
      go_ret
      exact ⟨A', c', rfl, r3.mono hbel.size, hbel.trans (r4.mono hbel.size)⟩

set_option maxHeartbeats 1000000 in
theorem rAdd_lt (A B : Option Addr) (xs ys : List Nat) (c d : Nat) (w : World) (ha : Lim w A c xs) (hb : Lim w B d ys) (hs : xs.length < 70368744177664) (ht : ys.length < 70368744177664) (hle : xs.length < ys.length) :
    Calls Try.prog 110 #[.slice A xs.length c, .slice B ys.length d] w (RetNat w (val xs + val ys)) := by
  have hmk := mk_run (↑ys.length + 1) (ys.length + 1) (by omega) (by omega)
  have hle2 : (xs.length : Int) < ys.length := by omega
  go_enter Try.func110, Try.ntmps110
  go_wp2_with fail
  go_loopw [6, 7] (fun t i wr => RAdd xs ys w ys.length t i wr) (fun _ i _ => ys.length + 1 - (intOf i).toNat)
  case atStart => exact radd_start xs ys w ys.length
  case round =>
    obtain ⟨k, q, zs, hk, rfl, rfl, hq, hl, hz, hrow, hbel, h0, hv⟩ := hrel
    have HV := Lib.hid hv
    have H0 := Lib.hid h0
    have HL := Lib.hid hl
    clear hv h0 hl hmk
    by_cases hlt : k < ys.length + 1
    · have hs1 := hrow.cell (i := k) (by rw [HL.out]; omega)
      have hs2 := hrow.frozen k
      rw [H0.out k (Nat.le_refl _)] at hs1
      have bx : xs[k]?.getD 0 < 4294967296 := ha.lb.get k
      have bY : ys[k]?.getD 0 < 4294967296 := hb.lb.get k
      have x0 : ¬ k < xs.length → xs[k]?.getD 0 = 0 := fun h => by rw [List.getElem?_eq_none (by omega)]; rfl
      have y0 : ¬ k < ys.length → ys[k]?.getD 0 = 0 := fun h => by rw [List.getElem?_eq_none (by omega)]; rfl
      by_cases hxk : k < xs.length
      · clear x0
        by_cases hyk : k < ys.length
        · obtain ⟨x, ex⟩ : ∃ x, xs[k]?.getD 0 = x := ⟨_, rfl⟩
          rw [ex] at bx
          have EX := Lib.hid ex
          clear ex
          obtain ⟨y, ey⟩ : ∃ y, ys[k]?.getD 0 = y := ⟨_, rfl⟩
          rw [ey] at bY
          have EY := Lib.hid ey
          clear ey y0
          obtain ⟨b1, o1, rfl, hb1, hc1⟩ := ha.at_ (by omega)
          have hx := (hbel.cell (p := ⟨b1, o1 + k, none⟩) hb1).trans (hc1 k hxk)
          rw [EX.out] at hx
          clear hc1
          obtain ⟨b2, o2, rfl, hb2, hc2⟩ := hb.at_ (by omega)
          have hy := (hbel.cell (p := ⟨b2, o2 + k, none⟩) hb2).trans (hc2 k hyk)
          rw [EY.out] at hy
          clear hc2
          have NXT := fun (a b : Int) => @radd_next xs ys zs w wr ys.length k q a b ha.lb hb.lb hlt hq HL.out hz hrow hbel H0.out HV.out
          rw [EX.out, EY.out] at NXT
          have md := mod_div_cast (q + x + y)
          have ec : ((q + x + y : Nat) : Int) = (q : Int) + x + y := by omega
          rw [ec] at md
          have nx := NXT _ _ md.1 md.2
          clear md ec
          have NX := Lib.hid nx
          clear NXT nx
          go_wp2
          go_roundw
          case rel => exact NX.out
          case measure => simp [intOf]; omega
        · exfalso; omega
      · by_cases hyk : k < ys.length
        · have EX := Lib.hid (x0 hxk)
          clear x0 bx
          obtain ⟨y, ey⟩ : ∃ y, ys[k]?.getD 0 = y := ⟨_, rfl⟩
          rw [ey] at bY
          have EY := Lib.hid ey
          clear ey y0
          have hxk' : ¬ ((k : Int) < xs.length) := by omega
          obtain ⟨b2, o2, rfl, hb2, hc2⟩ := hb.at_ (by omega)
          have hy := (hbel.cell (p := ⟨b2, o2 + k, none⟩) hb2).trans (hc2 k hyk)
          rw [EY.out] at hy
          clear hc2
          have NXT := fun (a b : Int) => @radd_next xs ys zs w wr ys.length k q a b ha.lb hb.lb hlt hq HL.out hz hrow hbel H0.out HV.out
          rw [EX.out, EY.out] at NXT
          have md := mod_div_cast (q + 0 + y)
          have ec : ((q + 0 + y : Nat) : Int) = (q : Int) + y := by omega
          rw [ec] at md
          have nx := NXT _ _ md.1 md.2
          clear md ec
          have NX := Lib.hid nx
          clear NXT nx
          go_wp2
          go_roundw
          case rel => exact NX.out
          case measure => simp [intOf]; omega
        · have EX := Lib.hid (x0 hxk)
          clear x0 bx
          have EY := Lib.hid (y0 hyk)
          clear y0 bY
          have hxk' : ¬ ((k : Int) < xs.length) := by omega
          have hyk' : ¬ ((k : Int) < ys.length) := by omega
          have NXT := fun (a b : Int) => @radd_next xs ys zs w wr ys.length k q a b ha.lb hb.lb hlt hq HL.out hz hrow hbel H0.out HV.out
          rw [EX.out, EY.out] at NXT
          have nx := NXT _ _ (mod_small hq).1 (mod_small hq).2
          have NX := Lib.hid nx
          clear NXT nx
          go_wp2
          go_roundw
          case rel => exact NX.out
          case measure => simp [intOf]; omega
    · obtain rfl : k = ys.length + 1 := by omega
      have HVAL := Lib.hid (radd_end ha.lb hb.lb (by omega) (by omega) HL.out hz HV.out)
      have hown := hrow.own hz (Nat.le_refl _) (by have := HL.out; omega)
      go_wp2_with fail
      have e1 := HL.out
      rw [← e1]
      clear e1
      refine (rTrim_c _ zs _ _ hown.lim (by have := HL.out; omega)).mono ?_
      rintro e w' ⟨A', c', rfl, r3, r4⟩
      rw [HVAL.out] at r3 ⊢
      go_wp2
      go_ret
      exact ⟨A', c', rfl, r3.mono hbel.size, hbel.trans (r4.mono hbel.size)⟩

/-- the sum -/
theorem rAdd_c (A B : Option Addr) (xs ys : List Nat) (c d : Nat) (w : World) (ha : Lim w A c xs) (hb : Lim w B d ys) (hs : xs.length < 70368744177664) (ht : ys.length < 70368744177664) :
    Calls Try.prog 110 #[.slice A xs.length c, .slice B ys.length d] w (RetNat w (val xs + val ys)) := by
  rcases Nat.lt_or_ge xs.length ys.length with h | h
  · exact rAdd_lt A B xs ys c d w ha hb hs ht h
  · exact rAdd_ge A B xs ys c d w ha hb hs ht h

end Go.Proofs.Ytkpchamgghhihaa
