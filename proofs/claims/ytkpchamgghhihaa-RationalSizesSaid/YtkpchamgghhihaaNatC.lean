/- Contracts of package natural: differences. -/
import Derived.Test.YtkpchamgghhihaaNatB
namespace Go.Proofs.Ytkpchamgghhihaa
open Go.RowKit Gm

/-- what a function returns that refuses some numbers -/
def RetNatOk (w : World) (n : Nat) (e : Ending) (w' : World) : Prop :=
  ∃ A c, e = .returned (.tuple #[.slice A (limbs n).length c, .bool true]) ∧ Own w.heap.size w' A c (limbs n) ∧ Below w.heap.size w w'
def RetNo (w : World) (e : Ending) (w' : World) : Prop := e = .returned (.tuple #[.slice none 0 0, .bool false]) ∧ ∃ n, w' = w.drewN n

set_option maxHeartbeats 400000 in
theorem Sub_no (A B : Option Addr) (xs ys : List Nat) (c d : Nat) (w : World) (ha : Lim w A c xs) (hb : Lim w B d ys)
    (hlt : val xs < val ys) :
    Calls Try.prog 15 #[.slice A xs.length c, .slice B ys.length d] w (RetNo w) := by
  have hc := ha.cap
  have hm := ha.max
  have hd := hb.cap
  have hn := hb.max
  go_enter Try.func15, Try.ntmps15
  go_wp2_with fail
  refine (cut_c _ _ _ _ ha).mono ?_
  rintro e w' ⟨rfl, rfl⟩
  go_wp2_with fail
  refine (cut_c _ _ _ _ hb).mono ?_
  rintro e w' ⟨rfl, rfl⟩
  have la := limbs_length_le ha.lb
  have lb := limbs_length_le hb.lb
  have ec : cmpN (val (limbs (val xs))) (val (limbs (val ys))) = -1 := by rw [val_limbs, val_limbs]; exact cmpN_lt hlt
  have EC := Lib.hid ec
  clear ec
  go_wp2_with fail
  refine (Compare_c _ _ _ _ _ _ _ ha.cut hb.cut).mono ?_
  rintro e w' ⟨rfl, n, rfl⟩
  rw [EC.out]
  go_wp2_with fail
  go_ret2
  exact ⟨rfl, n, rfl⟩

set_option maxHeartbeats 400000 in
theorem Sub_ok (A B : Option Addr) (xs ys : List Nat) (c d : Nat) (w : World) (ha : Lim w A c xs) (hb : Lim w B d ys)
    (hs : xs.length ≤ 70368744177664) (hge : val ys ≤ val xs) :
    Calls Try.prog 15 #[.slice A xs.length c, .slice B ys.length d] w (RetNatOk w (val xs - val ys)) := by
  have hc := ha.cap
  have hm := ha.max
  have hd := hb.cap
  have hn := hb.max
  go_enter Try.func15, Try.ntmps15
  go_wp2_with fail
  refine (cut_c _ _ _ _ ha).mono ?_
  rintro e w' ⟨rfl, rfl⟩
  go_wp2_with fail
  refine (cut_c _ _ _ _ hb).mono ?_
  rintro e w' ⟨rfl, rfl⟩
  have la := limbs_length_le ha.lb
  have lb := limbs_length_le hb.lb
  have ec : 0 ≤ cmpN (val (limbs (val xs))) (val (limbs (val ys))) := by
    rw [val_limbs, val_limbs]
    rcases Nat.lt_or_eq_of_le hge with h | h
    · rw [cmpN_gt h]; omega
    · rw [cmpN_eq h.symm]; omega
  go_wp2_with fail
  refine (Compare_c _ _ _ _ _ _ _ ha.cut hb.cut).mono ?_
  rintro e w' ⟨rfl, n, rfl⟩
  replace ha := ha.cut
  replace hb := hb.cut
  have EA := Lib.hid (val_limbs (val xs))
  have EB := Lib.hid (val_limbs (val ys))
  have hle := limbs_mono hge
  have HGE := Lib.hid hge
  clear hge
  generalize cmpN (val (limbs (val xs))) (val (limbs (val ys))) = z at *
  generalize limbs (val xs) = us at *
  generalize limbs (val ys) = vs at *
  have ec' : ¬ z < 0 := by omega
  have hmk := mk_run (↑us.length) us.length rfl (by omega)
  go_wp2_with fail
  go_loopw [7, 24] (fun t i wr => ∃ (k q : Nat) (zs : List Nat), k ≤ us.length ∧ i = .int .i64 k ∧ t = .int .u64 q ∧ q ≤ 1 ∧ zs.length = us.length ∧ Lb zs ∧ Row wr w.heap.size zs ∧ Below w.heap.size w wr ∧ (∀ j, k ≤ j → zs[j]?.getD 0 = 0) ∧ val zs + val (vs.take k) = val (us.take k) + Ba ^ k * q) (fun _ i _ => us.length - (intOf i).toNat)
  case atStart => exact ⟨0, 0, zeros us.length, Nat.zero_le _, rfl, rfl, by omega, zeros_length _, zeros_lb _, Row.new _ _, (below_drewN (Below.refl w.heap.size w) n).alloc (Nat.le_refl _) _, fun j _ => zeros_get _ _, by simp [zeros_val, val]⟩
  case round =>
    obtain ⟨k, q, zs, hk, rfl, rfl, hq, hl, hz, hrow, hbel, h0, hv⟩ := hrel
    have HV := Lib.hid hv
    have H0 := Lib.hid h0
    have HL := Lib.hid hl
    clear hv h0 hl hmk
    by_cases hlt : k < us.length
    · obtain ⟨b1, o1, rfl, hb1, hc1⟩ := ha.at_ (by omega)
      have hx := (hbel.cell (p := ⟨b1, o1 + k, none⟩) hb1).trans (hc1 k hlt)
      have bx : us[k]?.getD 0 < 4294967296 := ha.lb.get k
      obtain ⟨x, ex⟩ : ∃ x, us[k]?.getD 0 = x := ⟨_, rfl⟩
      rw [ex] at hx bx
      have EX := Lib.hid ex
      have hs1 := hrow.cell (i := k) (by rw [HL.out]; omega)
      have hs2 := hrow.frozen k
      rw [H0.out k (Nat.le_refl _)] at hs1
      clear ex hc1
      by_cases hlb : k < vs.length
      · obtain ⟨b2, o2, rfl, hb2, hc2⟩ := hb.at_ (by omega)
        have hy := (hbel.cell (p := ⟨b2, o2 + k, none⟩) hb2).trans (hc2 k hlb)
        have bY : vs[k]?.getD 0 < 4294967296 := hb.lb.get k
        obtain ⟨y, ey⟩ : ∃ y, vs[k]?.getD 0 = y := ⟨_, rfl⟩
        rw [ey] at hy bY
        have EY := Lib.hid ey
        clear ey hc2
        by_cases g1 : q + y ≤ x
        · go_wp2
          have hr := hrow.put k (x - q - y) (z := (x : Int) - q - y) (by omega)
          have hstep := sub_step_no (xs := us) (ys := vs) (zs := zs) (i := k) (c := q) (z := x - q - y) (by rw [HL.out]; omega) H0.out HV.out (by rw [EX.out, EY.out]; have := Ba_eq; omega)
          go_roundw
          case rel => exact ⟨k + 1, 0, zs.set k (x - q - y), by omega, by go_num, by go_num, by omega, by rw [List.length_set]; exact HL.out, hz.set _ _ (by have := Ba_eq; omega), hr, hbel.setCell (Nat.le_refl _) _, zeros_step H0.out, hstep⟩
          case measure => simp [intOf]; omega
        · by_cases g2 : q ≤ x
          · go_wp2
            have hr := hrow.put k (x + Ba - q - y) (z := IntKind.u64.wrap ((x : Int) - q - y) % 4294967296) (by rw [wrap_low _ (by omega) (by omega)]; have := Ba_eq; omega)
            have hstep := sub_step_yes (xs := us) (ys := vs) (zs := zs) (i := k) (c := q) (z := x + Ba - q - y) (by rw [HL.out]; omega) H0.out HV.out (by rw [EX.out, EY.out]; have := Ba_eq; omega)
            go_roundw
            case rel => exact ⟨k + 1, 1, zs.set k (x + Ba - q - y), by omega, by go_num, by rw [wrap_sign _ (by omega) (by omega)]; rfl, by omega, by rw [List.length_set]; exact HL.out, hz.set _ _ (by have := Ba_eq; omega), hr, hbel.setCell (Nat.le_refl _) _, zeros_step H0.out, hstep⟩
            case measure => simp [intOf]; omega
          · go_wp2
            have hr := hrow.put k (x + Ba - q - y) (z := IntKind.u64.wrap (IntKind.u64.wrap ((x : Int) - q) - y) % 4294967296) (by rw [wrap_sub, wrap_low _ (by omega) (by omega)]; have := Ba_eq; omega)
            have hstep := sub_step_yes (xs := us) (ys := vs) (zs := zs) (i := k) (c := q) (z := x + Ba - q - y) (by rw [HL.out]; omega) H0.out HV.out (by rw [EX.out, EY.out]; have := Ba_eq; omega)
            go_roundw
            case rel => exact ⟨k + 1, 1, zs.set k (x + Ba - q - y), by omega, by go_num, by rw [wrap_sub, wrap_sign _ (by omega) (by omega)]; rfl, by omega, by rw [List.length_set]; exact HL.out, hz.set _ _ (by have := Ba_eq; omega), hr, hbel.setCell (Nat.le_refl _) _, zeros_step H0.out, hstep⟩
            case measure => simp [intOf]; omega
      · have hlb' : ¬ ((k : Int) < vs.length) := by omega
        have hy0 : vs[k]?.getD 0 = 0 := by rw [List.getElem?_eq_none (by omega)]; rfl
        have EY := Lib.hid hy0
        clear hy0
        by_cases g1 : q ≤ x
        · go_wp2
          have hr := hrow.put k (x - q) (z := (x : Int) - q) (by omega)
          have hstep := sub_step_no (xs := us) (ys := vs) (zs := zs) (i := k) (c := q) (z := x - q) (by rw [HL.out]; omega) H0.out HV.out (by rw [EX.out, EY.out]; have := Ba_eq; omega)
          go_roundw
          case rel => exact ⟨k + 1, 0, zs.set k (x - q), by omega, by go_num, by go_num, by omega, by rw [List.length_set]; exact HL.out, hz.set _ _ (by have := Ba_eq; omega), hr, hbel.setCell (Nat.le_refl _) _, zeros_step H0.out, hstep⟩
          case measure => simp [intOf]; omega
        · go_wp2
          have hr := hrow.put k (x + Ba - q) (z := IntKind.u64.wrap ((x : Int) - q) % 4294967296) (by rw [wrap_low _ (by omega) (by omega)]; have := Ba_eq; omega)
          have hstep := sub_step_yes (xs := us) (ys := vs) (zs := zs) (i := k) (c := q) (z := x + Ba - q) (by rw [HL.out]; omega) H0.out HV.out (by rw [EX.out, EY.out]; have := Ba_eq; omega)
          go_roundw
          case rel => exact ⟨k + 1, 1, zs.set k (x + Ba - q), by omega, by go_num, by rw [wrap_sign _ (by omega) (by omega)]; rfl, by omega, by rw [List.length_set]; exact HL.out, hz.set _ _ (by have := Ba_eq; omega), hr, hbel.setCell (Nat.le_refl _) _, zeros_step H0.out, hstep⟩
          case measure => simp [intOf]; omega
    · obtain rfl : k = us.length := by omega
      have hval : val zs = val xs - val ys := by
        rw [← EA.out, ← EB.out]
        have := HV.out
        rw [List.take_of_length_le (Nat.le_refl _), List.take_of_length_le (by omega)] at this
        exact sub_end hz HL.out (by rw [EA.out, EB.out]; exact HGE.out) this
      have HVAL := Lib.hid hval
      clear hval
      go_wp2_with fail
      refine (cut_own hrow hz (Nat.le_refl _) HL.out (by omega) HVAL.out hbel).mono ?_
      rintro e w' ⟨A', c', rfl, r3, r4⟩
      go_wp2
      go_ret2
      exact ⟨A', c', rfl, r3, r4⟩

end Go.Proofs.Ytkpchamgghhihaa
