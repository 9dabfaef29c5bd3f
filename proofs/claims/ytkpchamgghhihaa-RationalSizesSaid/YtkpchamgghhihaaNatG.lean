/- Contracts of package natural: division by one limb. -/
import Derived.Test.YtkpchamgghhihaaNatF
namespace Go.Proofs.Ytkpchamgghhihaa
open Go.RowKit Gm

/-- a round of the division by one limb -/
theorem limb_step {us zs : List Nat} {m d rest : Nat} (hu : m < us.length) (hz : m < zs.length) (hv : val (us.drop (m + 1)) = d * val (zs.drop (m + 1)) + rest) :
    val (us.drop m) = d * val ((zs.set m ((us[m]?.getD 0 + 4294967296 * rest) / d)).drop m) + (us[m]?.getD 0 + 4294967296 * rest) % d := by
  have e : (zs.set m ((us[m]?.getD 0 + 4294967296 * rest) / d)).drop m = ((us[m]?.getD 0 + 4294967296 * rest) / d) :: zs.drop (m + 1) := by
    rw [List.drop_eq_getElem_cons (by simpa using hz)]
    simp [List.drop_set_of_lt]
  rw [e, val, val_drop hu, hv, Ba_eq]
  have h1 := Nat.div_add_mod (us[m]?.getD 0 + 4294967296 * rest) d
  generalize us[m]?.getD 0 = x at *
  generalize val (zs.drop (m + 1)) = Z at *
  generalize (x + 4294967296 * rest) / d = q at *
  generalize (x + 4294967296 * rest) % d = t at *
  grind
theorem limb_q {x rest d : Nat} (hx : x < 4294967296) (hr : rest < d) : (x + 4294967296 * rest) / d < 4294967296 := by
  apply Nat.div_lt_of_lt_mul
  have : 4294967296 * (rest + 1) ≤ 4294967296 * d := Nat.mul_le_mul_left _ hr
  rw [Nat.mul_comm d]
  omega

/-- what the division by one limb returns -/
def RetTwo (w : World) (q r : Nat) (e : Ending) (w' : World) : Prop :=
  ∃ A c B d, e = .returned (.tuple #[.slice A (limbs q).length c, .slice B (limbs r).length d]) ∧
    Own w.heap.size w' A c (limbs q) ∧ Own w.heap.size w' B d (limbs r) ∧ Below w.heap.size w w'

set_option maxHeartbeats 1000000 in
theorem divideByLimb_c (A : Option Addr) (us : List Nat) (c d : Nat) (w : World) (ha : Lim w A c us) (hs : us.length ≤ 70368744177664) (hd : 0 < d) (hd2 : d < 4294967296) :
    Calls Try.prog 69 #[.slice A us.length c, .int .u32 (d : Int)] w (RetTwo w (val us / d) (val us % d)) := by
  have hmk := mk_run (↑us.length) us.length rfl hs
  go_enter Try.func69, Try.ntmps69
  go_wp2_with fail
  go_loopw [6, 7] (fun t i wr => ∃ (k r : Nat) (zs : List Nat), k ≤ us.length ∧ i = .int .i64 ((k : Int) - 1) ∧ t = .int .u64 r ∧ r < d ∧ zs.length = us.length ∧ Lb zs ∧ Row wr w.heap.size zs ∧ Below w.heap.size w wr ∧ val (us.drop k) = d * val (zs.drop k) + r) (fun _ i _ => (intOf i + 1).toNat)
  case atStart => exact ⟨us.length, 0, zeros us.length, Nat.le_refl _, rfl, rfl, hd, zeros_length _, zeros_lb _, Row.new _ _, (Below.refl _ _).alloc (Nat.le_refl _) _, by rw [List.drop_length, List.drop_of_length_le (by rw [zeros_length]; exact Nat.le_refl _)]; simp [val]⟩
  case round =>
    obtain ⟨k, r, zs, hk, ht, rfl, hr, hl, hz, hrow, hbel, hv⟩ := hrel
    have HV := Lib.hid hv
    have HL := Lib.hid hl
    clear hv hl hmk
    rcases Nat.eq_zero_or_pos k with rfl | hp
    · subst ht
      have hq : val zs = val us / d ∧ r = val us % d := by
        have h1 := HV.out
        rw [List.drop_zero, List.drop_zero] at h1
        have h2 := (Nat.div_mod_unique (a := val us) (c := r) (d := val zs) hd).2 ⟨by rw [h1, Nat.add_comm], hr⟩
        exact ⟨h2.1.symm, h2.2.symm⟩
      have HQ := Lib.hid hq.1
      have HR := Lib.hid hq.2
      clear hq
      go_wp2_with fail
      refine (cut_own hrow hz (Nat.le_refl _) HL.out hs HQ.out hbel).mono ?_
      rintro e w1 ⟨A1, c1, rfl, r1, b1⟩
      go_wp2_with fail
      refine (FromUint64_c r _ (Nat.lt_trans hr (Nat.lt_trans hd2 (by decide)))).mono ?_
      rintro e w2 ⟨A2, c2, rfl, r2, b2⟩
      go_wp2
      go_ret2
      rw [← HR.out]
      exact ⟨A1, c1, A2, c2, rfl, r1.below b2, r2.mono b1.size, b1.trans (b2.mono b1.size)⟩
    · obtain ⟨m, rfl⟩ : ∃ m, k = m + 1 := ⟨k - 1, by omega⟩
      obtain rfl := ht.trans (show Value.int .i64 (((m + 1 : Nat) : Int) - 1) = .int .i64 (m : Int) by congr 1; omega)
      obtain ⟨b1, o1, rfl, hb1, hc1⟩ := ha.at_ (by omega)
      have hx := (hbel.cell (p := ⟨b1, o1 + m, none⟩) hb1).trans (hc1 m (by omega))
      have bx : us[m]?.getD 0 < 4294967296 := ha.lb.get m
      have hs1 := hrow.cell (i := m) (by rw [HL.out]; omega)
      have hs2 := hrow.frozen m
      have hstep := limb_step (us := us) (zs := zs) (m := m) (d := d) (rest := r) (by omega) (by rw [HL.out]; omega) HV.out
      obtain ⟨x, ex⟩ : ∃ x, us[m]?.getD 0 = x := ⟨_, rfl⟩
      rw [ex] at hx bx hstep
      clear ex hc1
      have hor := or_hi' x r bx (by omega)
      have hq := limb_q (x := x) (rest := r) (d := d) bx hr
      have ht2 := Nat.mod_lt (x + 4294967296 * r) hd
      obtain ⟨R, eR⟩ : ∃ R, x + 4294967296 * r = R := ⟨_, rfl⟩
      rw [eR] at hor hq ht2 hstep
      have hRb : R < 18446744073709551616 := by omega
      have e1 : (R : Int) / (d : Int) = ((R / d : Nat) : Int) := (Int.natCast_ediv R d).symm
      have e2 : (R : Int) % (d : Int) = ((R % d : Nat) : Int) := (Int.natCast_emod R d).symm
      obtain ⟨Q, eQ⟩ : ∃ Q, R / d = Q := ⟨_, rfl⟩
      obtain ⟨T, eT⟩ : ∃ T, R % d = T := ⟨_, rfl⟩
      rw [eQ] at hq e1 hstep
      rw [eT] at ht2 e2 hstep
      have e3 : (R : Int).tmod (d : Int) = (T : Int) := by rw [Int.tmod_eq_emod_of_nonneg (by omega)]; exact e2
      have e4 : (R : Int).tdiv (d : Int) = (Q : Int) := by rw [Int.tdiv_eq_ediv_of_nonneg (by omega)]; exact e1
      have hr2 := hrow.put m Q (z := (Q : Int)) rfl
      have HST := Lib.hid hstep
      have hne : ((d : Int) == 0) = false := by rw [beq_eq_false_iff_ne]; omega
      clear eR eQ eT hstep
      go_wp2
      go_roundw
      case rel => exact ⟨m, T, zs.set m Q, by omega, by go_num, rfl, ht2, by rw [List.length_set]; exact HL.out, hz.set _ _ hq, hr2, hbel.setCell (Nat.le_refl _) _, HST.out⟩
      case measure => simp [intOf]; try omega
/-- what the division by 0 returns -/
def RetDivNo (w : World) (e : Ending) (w' : World) : Prop := e = .returned (.tuple #[.slice none 0 0, .slice none 0 0, .bool false]) ∧ w = w'

set_option maxHeartbeats 400000 in
theorem DivMod_zero (A B : Option Addr) (xs ys : List Nat) (c d : Nat) (w : World) (ha : Lim w A c xs) (hb : Lim w B d ys) (h0 : val ys = 0) : Calls Try.prog 14 #[.slice A xs.length c, .slice B ys.length d] w (RetDivNo w) := by
  have hl : (limbs (val ys)).length = 0 := by rw [h0, limbs_zero]; rfl
  have HL := Lib.hid hl
  clear hl h0
  go_enter Try.func14, Try.ntmps14
  go_wp2_with fail
  refine (cut_c _ _ _ _ ha).mono ?_
  rintro e w' ⟨rfl, rfl⟩
  go_wp2_with fail
  refine (cut_c _ _ _ _ hb).mono ?_
  rintro e w' ⟨rfl, rfl⟩
  rw [HL.out]
  go_wp2
  go_ret3
  exact ⟨rfl, rfl⟩

set_option maxHeartbeats 400000 in
theorem DivMod_lt (A B : Option Addr) (xs ys : List Nat) (c d : Nat) (w : World) (ha : Lim w A c xs) (hb : Lim w B d ys) (hs : xs.length ≤ 70368744177664) (hlt : val xs < val ys) : Calls Try.prog 14 #[.slice A xs.length c, .slice B ys.length d] w (RetDiv w (val xs / val ys) (val xs % val ys)) := by
  have HQ := Lib.hid (Nat.div_eq_of_lt hlt)
  have HR := Lib.hid (Nat.mod_eq_of_lt hlt)
  have la := limbs_length_le ha.lb
  have lne : (((limbs (val ys)).length : Int) == 0) = false := by
    rw [beq_eq_false_iff_ne]
    intro e
    have := limbs_eq_nil.1 (List.eq_nil_of_length_eq_zero (show (limbs (val ys)).length = 0 by omega))
    omega
  have EC := Lib.hid (show cmpN (val (limbs (val xs))) (val (limbs (val ys))) = -1 by rw [val_limbs, val_limbs]; exact cmpN_lt hlt)
  clear hlt
  go_enter Try.func14, Try.ntmps14
  go_wp2_with fail
  refine (cut_c _ _ _ _ ha).mono ?_
  rintro e w' ⟨rfl, rfl⟩
  go_wp2_with fail
  refine (cut_c _ _ _ _ hb).mono ?_
  rintro e w' ⟨rfl, rfl⟩
  go_wp2_with fail
  refine (Compare_c _ _ _ _ _ _ _ ha.cut hb.cut).mono ?_
  rintro e w' ⟨rfl, n, rfl⟩
  rw [EC.out]
  go_wp2_with fail
  refine (Trim_c _ _ _ _ (ha.cut.drewN n) (by omega)).mono ?_
  rintro e w1 ⟨A1, c1, rfl, r1, b1⟩
  rw [val_limbs] at r1 ⊢
  go_wp2
  go_ret3
  rw [HQ.out, HR.out]
  exact ⟨none, 0, A1, c1, by rw [limbs_zero]; rfl, by rw [limbs_zero]; exact Own.nil _ _ _, r1, (below_drewN (Below.refl _ w) n).trans b1⟩

set_option maxHeartbeats 400000 in
theorem DivMod_limb (A B : Option Addr) (xs ys : List Nat) (c d : Nat) (w : World) (ha : Lim w A c xs) (hb : Lim w B d ys) (hs : xs.length ≤ 70368744177664) (hge : val ys ≤ val xs) (hbig : Ba * Ba ≤ val xs) (h1 : (limbs (val ys)).length = 1) : Calls Try.prog 14 #[.slice A xs.length c, .slice B ys.length d] w (RetDiv w (val xs / val ys) (val xs % val ys)) := by
  have la := limbs_length_le ha.lb
  have l2 : (2 : Int) < ((limbs (val xs)).length : Int) := by
    have : ¬ (limbs (val xs)).length ≤ 2 := fun h => by have := limbs_two.1 h; omega
    omega
  have ec : 0 ≤ cmpN (val (limbs (val xs))) (val (limbs (val ys))) := by
    rw [val_limbs, val_limbs]
    rcases Nat.lt_or_eq_of_le hge with h | h
    · rw [cmpN_gt h]; omega
    · rw [cmpN_eq h.symm]; omega
  obtain ⟨y, ey⟩ : ∃ y, limbs (val ys) = [y] := by
    obtain ⟨y, hy⟩ := List.length_eq_one_iff.1 h1
    exact ⟨y, hy⟩
  have evy : val ys = y := by rw [← val_limbs (val ys), ey]; simp [val]
  have hyb : y < 4294967296 := by
    have h : (limbs (val ys))[0]?.getD 0 < 4294967296 := (Lb_limbs (val ys)).get 0
    rw [ey] at h
    simpa using h
  have hy0 : 0 < y := by
    rcases Nat.eq_zero_or_pos y with h | h
    · exfalso
      rw [← evy] at h
      rw [h, limbs_zero] at ey
      cases ey
    · exact h
  have hlimb := hb.cut
  rw [ey] at hlimb
  obtain ⟨b1, o1, hB, hb1, hc1⟩ := hlimb.at_ (by simp)
  have hcell := hc1 0 (by simp)
  have hcell' : w.cell? ⟨b1, o1, none⟩ = some (.int .u32 (y : Int)) := by simpa using hcell
  have lne : (((limbs (val ys)).length : Int) == 0) = false := by rw [h1]; rfl
  have H1 := Lib.hid h1
  have EVY := Lib.hid evy
  clear hc1 hcell hlimb h1 evy ey hge hbig
  subst hB
  go_enter Try.func14, Try.ntmps14
  go_wp2_with fail
  refine (cut_c _ _ _ _ ha).mono ?_
  rintro e w' ⟨rfl, rfl⟩
  go_wp2_with fail
  refine (cut_c _ _ _ _ hb).mono ?_
  rintro e w' ⟨rfl, rfl⟩
  go_wp2_with fail
  refine (Compare_c _ _ _ _ _ _ _ ha.cut hb.cut).mono ?_
  rintro e w' ⟨rfl, n, rfl⟩
  generalize cmpN (val (limbs (val xs))) (val (limbs (val ys))) = z at *
  have ec' : ¬ z < 0 := by omega
  clear lne
  rw [H1.out]
  have l2' : ¬ (((limbs (val xs)).length : Int) ≤ 2) := by omega
  go_wp2_with fail
  refine (divideByLimb_c _ _ _ y _ (ha.cut.drewN n) (by omega) hy0 hyb).mono ?_
  rintro e w1 ⟨A1, c1, A2, c2, rfl, r1, r2, b1'⟩
  rw [val_limbs] at r1 r2 ⊢
  go_wp2
  go_ret3
  rw [EVY.out]
  exact ⟨A1, c1, A2, c2, rfl, r1, r2, (below_drewN (Below.refl _ w) n).trans b1'⟩

end Go.Proofs.Ytkpchamgghhihaa
