/- Contracts of package natural: cutting of zero limbs, comparison. -/
import Derived.Test.YtkpchamgghhihaaMem
namespace Go.Proofs.Ytkpchamgghhihaa
open Go.RowKit Gm

set_option maxHeartbeats 400000 in
theorem cut_c (A : Option Addr) (xs : List Nat) (c : Nat) (w : World) (h : Lim w A c xs) :
    Calls Try.prog 65 #[.slice A xs.length c] w fun e w' => e = .returned (.slice A (limbs (val xs)).length c) ∧ w = w' := by
  have hc := h.cap
  have hm := h.max
  go_enter Try.func65, Try.ntmps65
  go_wp2
  go_loop [3] (fun t => ∃ n : Nat, n ≤ xs.length ∧ t = .int .i64 n ∧ val (xs.drop n) = 0) (fun t => (intOf t).toNat)
  case atStart => exact ⟨xs.length, Nat.le_refl _, rfl, by simp [val]⟩
  case round =>
    obtain ⟨n, hn, rfl, hv⟩ := hrel
    have HV := Lib.hid hv
    clear hv
    rcases Nat.eq_zero_or_pos n with rfl | hp
    · have hl : (limbs (val xs)).length = 0 := by rw [← take_canon h.lb hn HV.out (.inl rfl)]; simp
      have HL := Lib.hid hl
      clear hl
      go_wp2
      go_ret
      exact ⟨by rw [HL.out]; rfl, rfl⟩
    · obtain ⟨m, rfl⟩ : ∃ m, n = m + 1 := ⟨n - 1, by omega⟩
      have hLb := h.lb
      obtain ⟨b, off, rfl, hb, hcell⟩ := h.at_ (by omega)
      have hx := hcell m (by omega)
      clear hcell h
      obtain ⟨x, ex⟩ : ∃ x, xs[m]?.getD 0 = x := ⟨_, rfl⟩
      rw [ex] at hx
      have EX := Lib.hid ex
      clear ex
      by_cases h0 : x = 0
      · subst h0
        go_wp2
        go_round
        case rel => exact ⟨m, by omega, by go_num, val_drop_step (by omega) HV.out EX.out⟩
        case measure => simp [intOf]
      · have hb0 : ((x : Int) == 0) = false := by simp; omega
        have hl : (limbs (val xs)).length = m + 1 := by
          rw [← take_canon hLb hn HV.out (.inr (by simp only [Nat.add_sub_cancel]; rw [EX.out]; exact h0))]; simp; omega
        have HL := Lib.hid hl
        clear hl
        go_wp2
        go_ret

        exact ⟨by rw [HL.out]; rfl, rfl⟩
/-- cutting a row of the call's own gives the canonical list in new memory -/
theorem cut_own {w w1 : World} {g k n : Nat} {rs : List Nat} (hr : Row w1 g rs) (hz : Lb rs) (hg : w.heap.size ≤ g) (hk : rs.length = k) (hm : k ≤ 70368744177664) (hv : val rs = n) (hb : Below w.heap.size w w1) :
    Calls Try.prog 65 #[.slice (some ⟨g, 0, none⟩) k k] w1 (RetNat w n) := by
  subst hk hv
  have hown := hr.own hz hg (by omega)
  refine (cut_c _ _ _ _ hown.lim).mono ?_
  rintro e w' ⟨rfl, rfl⟩
  exact ⟨_, _, rfl, hown.cut, hb⟩

set_option maxHeartbeats 400000 in
theorem Compare_c (A B : Option Addr) (xs ys : List Nat) (c d : Nat) (w : World) (ha : Lim w A c xs) (hb : Lim w B d ys) :
    Calls Try.prog 66 #[.slice A xs.length c, .slice B ys.length d] w fun e w' => e = .returned (.int .i64 (cmpN (val xs) (val ys))) ∧ ∃ n, w' = w.drewN n := by
  have hc := ha.cap
  have hm := ha.max
  have hd := hb.cap
  have hn := hb.max
  go_enter Try.func66, Try.ntmps66
  go_wp2_with fail
  refine (cut_c _ _ _ _ ha).mono ?_
  rintro e w' ⟨rfl, rfl⟩
  go_wp2_with fail
  refine (cut_c _ _ _ _ hb).mono ?_
  rintro e w' ⟨rfl, rfl⟩
  have la := limbs_length_le ha.lb
  have lb := limbs_length_le hb.lb
  replace ha := ha.cut
  replace hb := hb.cut
  have ea := val_limbs (val xs)
  have eb := val_limbs (val ys)
  have EA := Lib.hid ea
  have EB := Lib.hid eb
  clear ea eb
  have HLT := Lib.hid (@limbs_lt_length (val xs) (val ys))
  have HGT := Lib.hid (@limbs_lt_length (val ys) (val xs))
  generalize limbs (val xs) = us at *
  generalize limbs (val ys) = vs at *
  by_cases hne : us.length = vs.length
  · have hb1 : ((us.length : Int) != (vs.length : Int)) = false := by simp [hne]
    have HN := Lib.hid hne
    clear hne
    go_wp2_with fail
    go_loopw [5] (fun t wr => ∃ k : Nat, k ≤ us.length ∧ t = .int .i64 ((k : Int) - 1) ∧ val (us.drop k) = val (vs.drop k) ∧ ∃ n, wr = w.drewN n) (fun t _ => (intOf t + 1).toNat)
    case atStart => exact ⟨us.length, Nat.le_refl _, rfl, by rw [List.drop_length, HN.out, List.drop_length], 0, rfl⟩
    case round =>
      obtain ⟨k, hk, ht, hv, n, rfl⟩ := hrel
      have HV := Lib.hid hv
      clear hv
      rcases Nat.eq_zero_or_pos k with rfl | hp
      · subst ht
        go_wp2
        go_ret
        exact ⟨by rw [cmpN_eq (by rw [← EA.out, ← EB.out]; exact HV.out)]; rfl, n, rfl⟩
      · obtain ⟨m, rfl⟩ : ∃ m, k = m + 1 := ⟨k - 1, by omega⟩
        obtain rfl := ht.trans (show Value.int .i64 (((m + 1 : Nat) : Int) - 1) = .int .i64 (m : Int) by congr 1; omega)
        have e2 := HN.out
        have hm2 : m < vs.length := by omega
        clear e2
        have lba := ha.lb
        have lbb := hb.lb
        obtain ⟨b1, o1, rfl, hb1', hc1⟩ := ha.at_ (by omega)
        obtain ⟨b2, o2, rfl, hb2', hc2⟩ := hb.at_ (by omega)
        have hx := hc1 m (by omega)
        have hy := hc2 m (by omega)
        clear hc1 hc2 ha hb
        obtain ⟨x, ex⟩ : ∃ x, us[m]?.getD 0 = x := ⟨_, rfl⟩
        obtain ⟨y, ey⟩ : ∃ y, vs[m]?.getD 0 = y := ⟨_, rfl⟩
        rw [ex] at hx
        rw [ey] at hy
        have EX := Lib.hid ex
        have EY := Lib.hid ey
        clear ex ey
        have i0 : (0 : Int) ≤ (m : Int) := by omega
        have i1 : (m : Int) < us.length := by omega
        have i2 : (m : Int) < vs.length := by omega
        rcases Nat.lt_trichotomy x y with hl | hl | hl
        · go_wp2
          go_quiet (fail)
          go_wp2
          go_ret
          exact ⟨by rw [cmpN_lt (by rw [← EA.out, ← EB.out]; exact cmp_lt lba (by omega) hm2 HV.out (by rw [EX.out, EY.out]; exact hl))]; rfl, _, World.drewN_drewN _ _ _⟩
        · subst hl
          go_wp2
          go_quiet (fail)
          go_wp2
          go_quiet (fail)
          go_wp2
          go_roundw
          case rel => exact ⟨m, by omega, rfl, drop_eq_step (by omega) hm2 HV.out (by rw [EX.out, EY.out]), _, rfl⟩
          case measure => simp [intOf]
        · go_wp2
          go_quiet (fail)
          go_wp2
          go_quiet (fail)
          go_wp2
          go_ret
          exact ⟨by rw [cmpN_gt (by rw [← EA.out, ← EB.out]; exact cmp_lt lbb hm2 (by omega) HV.out.symm (by rw [EX.out, EY.out]; exact hl))]; rfl, _, by rw [World.drewN_drewN, World.drewN_drewN]⟩
  · rcases Nat.lt_or_gt_of_ne hne with hl | hl
    · have hb1 : ((us.length : Int) != (vs.length : Int)) = true := by simp; omega
      go_wp2_with fail
      go_ret
      exact ⟨by rw [cmpN_lt (HLT.out hl)]; rfl, 0, rfl⟩
    · have hb1 : ((us.length : Int) != (vs.length : Int)) = true := by simp; omega
      have hb2 : ¬ ((us.length : Int) < (vs.length : Int)) := by omega
      go_wp2_with fail
      go_ret
      exact ⟨by rw [cmpN_gt (HGT.out hl)]; rfl, 0, rfl⟩
end Go.Proofs.Ytkpchamgghhihaa
