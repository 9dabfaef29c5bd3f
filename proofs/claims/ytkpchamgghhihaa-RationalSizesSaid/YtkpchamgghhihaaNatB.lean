/- Contracts of package natural: sums. -/
import Derived.Test.YtkpchamgghhihaaNatA
namespace Go.Proofs.Ytkpchamgghhihaa
open Go.RowKit Gm

set_option maxHeartbeats 400000 in
theorem Add_ge (A B : Option Addr) (xs ys : List Nat) (c d : Nat) (w : World) (ha : Lim w A c xs) (hb : Lim w B d ys)
    (hs : xs.length < 70368744177664) (hle : (limbs (val ys)).length ≤ (limbs (val xs)).length) :
    Calls Try.prog 19 #[.slice A xs.length c, .slice B ys.length d] w (RetNat w (val xs + val ys)) := by
  have hc := ha.cap
  have hm := ha.max
  have hd := hb.cap
  have hn := hb.max
  go_enter Try.func19, Try.ntmps19
  go_wp2_with fail
  refine (cut_c _ _ _ _ ha).mono ?_
  rintro e w' ⟨rfl, rfl⟩
  go_wp2_with fail
  refine (cut_c _ _ _ _ hb).mono ?_
  rintro e w' ⟨rfl, rfl⟩
  have la := limbs_length_le ha.lb
  have lb := limbs_length_le hb.lb
  replace ha := ha.cut
  replace hb := hb.cut
  have EA := Lib.hid (val_limbs (val xs))
  have EB := Lib.hid (val_limbs (val ys))
  generalize limbs (val xs) = us at *
  generalize limbs (val ys) = vs at *
  have hmk := mk_run (↑us.length + 1) (us.length + 1) (by omega) (by omega)
  go_wp2_with fail
  go_loopw [6, 26] (fun t i wr => ∃ (k q : Nat) (zs : List Nat), k ≤ us.length ∧ i = .int .i64 k ∧ t = .int .u64 q ∧ q ≤ 1 ∧ zs.length = us.length + 1 ∧ Lb zs ∧ Row wr w.heap.size zs ∧ Below w.heap.size w wr ∧ (∀ j, k ≤ j → zs[j]?.getD 0 = 0) ∧ val zs + Ba ^ k * q = val (us.take k) + val (vs.take k)) (fun _ i _ => us.length - (intOf i).toNat)
  case atStart => exact ⟨0, 0, zeros (us.length + 1), Nat.zero_le _, rfl, rfl, by omega, zeros_length _, zeros_lb _, Row.new _ _, (Below.refl _ _).alloc (Nat.le_refl _) _, fun j _ => zeros_get _ _, by simp [zeros_val, val]⟩
  case round =>
    obtain ⟨k, q, zs, hk, rfl, rfl, hq, hl, hz, hrow, hbel, h0, hv⟩ := hrel
    have HV := Lib.hid hv
    have H0 := Lib.hid h0
    have HL := Lib.hid hl
    clear hv h0 hl hmk
    by_cases hlt : k < us.length
    · obtain ⟨b1, o1, rfl, hb1, hc1⟩ := ha.at_ (by omega)
      have hx := (hbel.cell (p := ⟨b1, o1 + k, none⟩) hb1).trans (hc1 k hlt)
      have bx : us[k]?.getD 0 < 4294967296 := ha.lb.get k
      obtain ⟨x, ex⟩ : ∃ x, us[k]?.getD 0 = x := ⟨_, rfl⟩
      rw [ex] at hx bx
      have EX := Lib.hid ex
      have hs1 := hrow.cell (i := k) (by rw [HL.out]; omega)
      have hs2 := hrow.frozen k
      rw [H0.out k (Nat.le_refl _)] at hs1
      clear ex hc1
      by_cases hlb : k < vs.length
      · obtain ⟨b2, o2, rfl, hb2, hc2⟩ := hb.at_ (by omega)
        have hy := (hbel.cell (p := ⟨b2, o2 + k, none⟩) hb2).trans (hc2 k hlb)
        have bY : vs[k]?.getD 0 < 4294967296 := hb.lb.get k
        obtain ⟨y, ey⟩ : ∃ y, vs[k]?.getD 0 = y := ⟨_, rfl⟩
        rw [ey] at hy bY
        have EY := Lib.hid ey
        clear ey hc2
        go_wp2
        have hr := hrow.put k ((q + x + y) % Ba) (z := ((q : Int) + x + y) % 4294967296) (by simp only [Ba_eq]; omega)
        have hstep := add_step (xs := us) (ys := vs) (zs := zs) (i := k) (c := q) (by rw [HL.out]; omega) H0.out HV.out
        rw [EX.out, EY.out] at hstep
        go_roundw
        case rel => exact ⟨k + 1, (q + x + y) / Ba, zs.set k ((q + x + y) % Ba), by omega, by go_num, by simp only [Ba_eq]; go_num, by simp only [Ba_eq]; omega, by rw [List.length_set]; exact HL.out, hz.set _ _ (Nat.mod_lt _ Ba_pos), hr, hbel.setCell (Nat.le_refl _) _, zeros_step H0.out, hstep⟩
        case measure => simp [intOf]; omega
      · have hy0 : vs[k]?.getD 0 = 0 := by rw [List.getElem?_eq_none (by omega)]; rfl
        have EY := Lib.hid hy0
        clear hy0
        have hlb' : ¬ ((k : Int) < vs.length) := by omega
        go_wp2
        have hr := hrow.put k ((q + x + 0) % Ba) (z := ((q : Int) + x) % 4294967296) (by simp only [Ba_eq]; omega)
        have hstep := add_step (xs := us) (ys := vs) (zs := zs) (i := k) (c := q) (by rw [HL.out]; omega) H0.out HV.out
        rw [EX.out, EY.out] at hstep
        go_roundw
        case rel => exact ⟨k + 1, (q + x + 0) / Ba, zs.set k ((q + x + 0) % Ba), by omega, by go_num, by simp only [Ba_eq]; go_num, by simp only [Ba_eq]; omega, by rw [List.length_set]; exact HL.out, hz.set _ _ (Nat.mod_lt _ Ba_pos), hr, hbel.setCell (Nat.le_refl _) _, zeros_step H0.out, hstep⟩
        case measure => simp [intOf]; omega
    · obtain rfl : k = us.length := by omega
      have hs1 := hrow.cell (i := us.length) (by rw [HL.out]; omega)
      have hs2 := hrow.frozen us.length
      rw [H0.out us.length (Nat.le_refl _)] at hs1
      have hr := hrow.put us.length q (z := (q : Int)) rfl
      have e1 := val_set (zs := zs) (k := us.length) q (by rw [HL.out]; omega)
      rw [H0.out us.length (Nat.le_refl _)] at e1
      have hval : val (zs.set us.length q) = val xs + val ys := by
        rw [← EA.out, ← EB.out]
        have := HV.out
        rw [List.take_of_length_le (Nat.le_refl _), List.take_of_length_le (by omega)] at this
        omega
      have hlen : (zs.set us.length q).length = us.length + 1 := by rw [List.length_set]; exact HL.out
      have hzl := hz.set us.length q (by have := Ba_eq; omega)
      have hb2 := hbel.setCell (p := ⟨w.heap.size, us.length, none⟩) (Nat.le_refl _) (.int .u32 (q : Int))
      have HVAL := Lib.hid hval
      have HLEN := Lib.hid hlen
      clear hval hlen e1
      go_wp2_with fail
      refine (cut_own hr hzl (Nat.le_refl _) HLEN.out (by omega) HVAL.out hb2).mono ?_
      rintro e w' ⟨A', c', rfl, r3, r4⟩
      go_wp2
      go_ret
      exact ⟨A', c', rfl, r3, r4⟩
set_option maxHeartbeats 400000 in
theorem Add_lt (A B : Option Addr) (xs ys : List Nat) (c d : Nat) (w : World) (ha : Lim w A c xs) (hb : Lim w B d ys)
    (hs : ys.length < 70368744177664) (hle : (limbs (val xs)).length < (limbs (val ys)).length) :
    Calls Try.prog 19 #[.slice A xs.length c, .slice B ys.length d] w (RetNat w (val ys + val xs)) := by
  have hc := ha.cap
  have hm := ha.max
  have hd := hb.cap
  have hn := hb.max
  go_enter Try.func19, Try.ntmps19
  go_wp2_with fail
  refine (cut_c _ _ _ _ ha).mono ?_
  rintro e w' ⟨rfl, rfl⟩
  go_wp2_with fail
  refine (cut_c _ _ _ _ hb).mono ?_
  rintro e w' ⟨rfl, rfl⟩
  have la := limbs_length_le ha.lb
  have lb := limbs_length_le hb.lb
  replace ha := ha.cut
  replace hb := hb.cut
  have EA := Lib.hid (val_limbs (val xs))
  have EB := Lib.hid (val_limbs (val ys))
  generalize limbs (val xs) = us at *
  generalize limbs (val ys) = vs at *
  have hmk := mk_run (↑vs.length + 1) (vs.length + 1) (by omega) (by omega)
  go_wp2_with fail
  go_loopw [6, 26] (fun t i wr => ∃ (k q : Nat) (zs : List Nat), k ≤ vs.length ∧ i = .int .i64 k ∧ t = .int .u64 q ∧ q ≤ 1 ∧ zs.length = vs.length + 1 ∧ Lb zs ∧ Row wr w.heap.size zs ∧ Below w.heap.size w wr ∧ (∀ j, k ≤ j → zs[j]?.getD 0 = 0) ∧ val zs + Ba ^ k * q = val (vs.take k) + val (us.take k)) (fun _ i _ => vs.length - (intOf i).toNat)
  case atStart => exact ⟨0, 0, zeros (vs.length + 1), Nat.zero_le _, rfl, rfl, by omega, zeros_length _, zeros_lb _, Row.new _ _, (Below.refl _ _).alloc (Nat.le_refl _) _, fun j _ => zeros_get _ _, by simp [zeros_val, val]⟩
  case round =>
    obtain ⟨k, q, zs, hk, rfl, rfl, hq, hl, hz, hrow, hbel, h0, hv⟩ := hrel
    have HV := Lib.hid hv
    have H0 := Lib.hid h0
    have HL := Lib.hid hl
    clear hv h0 hl hmk
    by_cases hlt : k < vs.length
    · obtain ⟨b1, o1, rfl, hb1, hc1⟩ := hb.at_ (by omega)
      have hx := (hbel.cell (p := ⟨b1, o1 + k, none⟩) hb1).trans (hc1 k hlt)
      have bx : vs[k]?.getD 0 < 4294967296 := hb.lb.get k
      obtain ⟨x, ex⟩ : ∃ x, vs[k]?.getD 0 = x := ⟨_, rfl⟩
      rw [ex] at hx bx
      have E1 := Lib.hid ex
      have hs1 := hrow.cell (i := k) (by rw [HL.out]; omega)
      have hs2 := hrow.frozen k
      rw [H0.out k (Nat.le_refl _)] at hs1
      clear ex hc1
      by_cases hlb : k < us.length
      · obtain ⟨b2, o2, rfl, hb2, hc2⟩ := ha.at_ (by omega)
        have hy := (hbel.cell (p := ⟨b2, o2 + k, none⟩) hb2).trans (hc2 k hlb)
        have bY : us[k]?.getD 0 < 4294967296 := ha.lb.get k
        obtain ⟨y, ey⟩ : ∃ y, us[k]?.getD 0 = y := ⟨_, rfl⟩
        rw [ey] at hy bY
        have EY := Lib.hid ey
        clear ey hc2
        go_wp2
        have hr := hrow.put k ((q + x + y) % Ba) (z := ((q : Int) + x + y) % 4294967296) (by simp only [Ba_eq]; omega)
        have hstep := add_step (xs := vs) (ys := us) (zs := zs) (i := k) (c := q) (by rw [HL.out]; omega) H0.out HV.out
        rw [E1.out, EY.out] at hstep
        go_roundw
        case rel => exact ⟨k + 1, (q + x + y) / Ba, zs.set k ((q + x + y) % Ba), by omega, by go_num, by simp only [Ba_eq]; go_num, by simp only [Ba_eq]; omega, by rw [List.length_set]; exact HL.out, hz.set _ _ (Nat.mod_lt _ Ba_pos), hr, hbel.setCell (Nat.le_refl _) _, zeros_step H0.out, hstep⟩
        case measure => simp [intOf]; omega
      · have hy0 : us[k]?.getD 0 = 0 := by rw [List.getElem?_eq_none (by omega)]; rfl
        have EY := Lib.hid hy0
        clear hy0
        have hlb' : ¬ ((k : Int) < us.length) := by omega
        go_wp2
        have hr := hrow.put k ((q + x + 0) % Ba) (z := ((q : Int) + x) % 4294967296) (by simp only [Ba_eq]; omega)
        have hstep := add_step (xs := vs) (ys := us) (zs := zs) (i := k) (c := q) (by rw [HL.out]; omega) H0.out HV.out
        rw [E1.out, EY.out] at hstep
        go_roundw
        case rel => exact ⟨k + 1, (q + x + 0) / Ba, zs.set k ((q + x + 0) % Ba), by omega, by go_num, by simp only [Ba_eq]; go_num, by simp only [Ba_eq]; omega, by rw [List.length_set]; exact HL.out, hz.set _ _ (Nat.mod_lt _ Ba_pos), hr, hbel.setCell (Nat.le_refl _) _, zeros_step H0.out, hstep⟩
        case measure => simp [intOf]; omega
    · obtain rfl : k = vs.length := by omega
      have hs1 := hrow.cell (i := vs.length) (by rw [HL.out]; omega)
      have hs2 := hrow.frozen vs.length
      rw [H0.out vs.length (Nat.le_refl _)] at hs1
      have hr := hrow.put vs.length q (z := (q : Int)) rfl
      have e1 := val_set (zs := zs) (k := vs.length) q (by rw [HL.out]; omega)
      rw [H0.out vs.length (Nat.le_refl _)] at e1
      have hval : val (zs.set vs.length q) = val ys + val xs := by
        rw [← EB.out, ← EA.out]
        have := HV.out
        rw [List.take_of_length_le (Nat.le_refl _), List.take_of_length_le (by omega)] at this
        omega
      have hlen : (zs.set vs.length q).length = vs.length + 1 := by rw [List.length_set]; exact HL.out
      have hzl := hz.set vs.length q (by have := Ba_eq; omega)
      have hb2 := hbel.setCell (p := ⟨w.heap.size, vs.length, none⟩) (Nat.le_refl _) (.int .u32 (q : Int))
      have HVAL := Lib.hid hval
      have HLEN := Lib.hid hlen
      clear hval hlen e1
      go_wp2_with fail
      refine (cut_own hr hzl (Nat.le_refl _) HLEN.out (by omega) HVAL.out hb2).mono ?_
      rintro e w' ⟨A', c', rfl, r3, r4⟩
      go_wp2
      go_ret
      exact ⟨A', c', rfl, r3, r4⟩
/-- the sum -/
theorem Add_c (A B : Option Addr) (xs ys : List Nat) (c d : Nat) (w : World) (ha : Lim w A c xs) (hb : Lim w B d ys)
    (hs : xs.length < 70368744177664) (ht : ys.length < 70368744177664) :
    Calls Try.prog 19 #[.slice A xs.length c, .slice B ys.length d] w (RetNat w (val xs + val ys)) := by
  rcases Nat.lt_or_ge (limbs (val xs)).length (limbs (val ys)).length with h | h
  · rw [Nat.add_comm]; exact Add_lt A B xs ys c d w ha hb ht h
  · exact Add_ge A B xs ys c d w ha hb hs h

end Go.Proofs.Ytkpchamgghhihaa
