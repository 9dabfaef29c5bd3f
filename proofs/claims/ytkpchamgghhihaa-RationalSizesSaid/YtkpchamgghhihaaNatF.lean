/- Contracts of package natural: products. -/
import Derived.Test.YtkpchamgghhihaaNatE
namespace Go.Proofs.Ytkpchamgghhihaa
open Go.RowKit Gm

set_option maxHeartbeats 400000 in
theorem Mul_zero (A B : Option Addr) (xs ys : List Nat) (c d : Nat) (w : World) (ha : Lim w A c xs) (hb : Lim w B d ys) (h0 : val xs = 0 ∨ val ys = 0) :
    Calls Try.prog 20 #[.slice A xs.length c, .slice B ys.length d] w (RetNat w (val xs * val ys)) := by
  have hv : val xs * val ys = 0 := by rcases h0 with h | h <;> rw [h] <;> simp
  rw [hv]
  clear hv
  have hret : RetNat w 0 (.returned (.slice none 0 0)) w := ⟨none, 0, by rw [limbs_zero]; rfl, by rw [limbs_zero]; exact Own.nil _ _ _, Below.refl _ _⟩
  have HR := Lib.hid hret
  clear hret
  go_enter Try.func20, Try.ntmps20
  go_wp2_with fail
  refine (cut_c _ _ _ _ ha).mono ?_
  rintro e w' ⟨rfl, rfl⟩
  go_wp2_with fail
  refine (cut_c _ _ _ _ hb).mono ?_
  rintro e w' ⟨rfl, rfl⟩
  by_cases hx : val xs = 0
  · have e1 : (limbs (val xs)).length = 0 := by rw [hx, limbs_zero]; rfl
    rw [e1]
    clear e1 h0 hx
    go_wp2
    go_ret
    exact HR.out
  · have hy : val ys = 0 := by omega
    have e1 : (limbs (val ys)).length = 0 := by rw [hy, limbs_zero]; rfl
    have e2 : (((limbs (val xs)).length : Int) == 0) = false := by
      have : (limbs (val xs)).length ≠ 0 := fun e => hx (limbs_eq_nil.1 (List.eq_nil_of_length_eq_zero e))
      simp; intro h; exact hx (limbs_eq_nil.1 h)
    rw [e1]
    generalize (limbs (val xs)).length = n at *
    clear e1 h0 hx hy
    go_wp2
    go_ret
    exact HR.out

set_option maxHeartbeats 1000000 in
theorem Mul_pos (A B : Option Addr) (xs ys : List Nat) (c d : Nat) (w : World) (ha : Lim w A c xs) (hb : Lim w B d ys) (hx0 : val xs ≠ 0) (hy0 : val ys ≠ 0) (hs : (limbs (val xs)).length + (limbs (val ys)).length ≤ 70368744177664) :
    Calls Try.prog 20 #[.slice A xs.length c, .slice B ys.length d] w (RetNat w (val xs * val ys)) := by
  go_enter Try.func20, Try.ntmps20
  go_wp2_with fail
  refine (cut_c _ _ _ _ ha).mono ?_
  rintro e w' ⟨rfl, rfl⟩
  go_wp2_with fail
  refine (cut_c _ _ _ _ hb).mono ?_
  rintro e w' ⟨rfl, rfl⟩
  have la := limbs_length_le ha.lb
  have lb := limbs_length_le hb.lb
  have pa : 0 < (limbs (val xs)).length := List.length_pos_iff.2 (fun e => hx0 (limbs_eq_nil.1 e))
  have pb : 0 < (limbs (val ys)).length := List.length_pos_iff.2 (fun e => hy0 (limbs_eq_nil.1 e))
  replace ha := ha.cut
  replace hb := hb.cut
  have EA := Lib.hid (val_limbs (val xs))
  have EB := Lib.hid (val_limbs (val ys))
  generalize limbs (val xs) = us at *
  generalize limbs (val ys) = vs at *
  have e1 : ((us.length : Int) == 0) = false := by simp; intro h; rw [h] at pa; simp at pa
  have e2 : ((vs.length : Int) == 0) = false := by simp; intro h; rw [h] at pb; simp at pb
  have hmk := mk_run (↑us.length + ↑vs.length) (us.length + vs.length) (by omega) (by omega)
  clear hx0 hy0
  go_wp2_with fail
  go_loopw [31] (fun i wr => ∃ (k : Nat) (ps : List Nat), k ≤ us.length ∧ i = .int .i64 k ∧ ps.length = us.length + vs.length ∧ Lb ps ∧ Row wr w.heap.size ps ∧ Below w.heap.size w wr ∧ (∀ j, k + vs.length ≤ j → ps[j]?.getD 0 = 0) ∧ val ps = val (us.take k) * val vs) (fun i _ => us.length - (intOf i).toNat)
  case atStart => exact ⟨0, zeros (us.length + vs.length), Nat.zero_le _, rfl, zeros_length _, zeros_lb _, Row.new _ _, (Below.refl _ _).alloc (Nat.le_refl _) _, fun j _ => zeros_get _ _, by simp [zeros_val, val]⟩
  case round =>
    obtain ⟨k, ps, hk, rfl, hl, hz, hrow, hbel, h0, hv⟩ := hrel
    have HV := Lib.hid hv
    have H0 := Lib.hid h0
    have HL := Lib.hid hl
    clear hv h0 hl hmk
    by_cases hlt : k < us.length
    · obtain ⟨b1, o1, rfl, hb1, hc1⟩ := ha.at_ (by omega)
      have hx := (hbel.cell (p := ⟨b1, o1 + k, none⟩) hb1).trans (hc1 k hlt)
      have bx : us[k]?.getD 0 < 4294967296 := ha.lb.get k
      have hts := val_take_succ (xs := us) hlt
      obtain ⟨x, ex⟩ : ∃ x, us[k]?.getD 0 = x := ⟨_, rfl⟩
      rw [ex] at hx bx hts
      have HTS := Lib.hid hts
      clear ex hc1 hts
      by_cases hx0 : x = 0
      · subst hx0
        go_wp2
        go_roundw
        case rel => exact ⟨k + 1, ps, by omega, by go_num, HL.out, hz, hrow, hbel, fun j hj => H0.out j (by omega), by rw [HTS.out, HV.out]; simp⟩
        case measure => simp [intOf]; omega
      · have hxb : ((x : Int) == 0) = false := by simp; omega
        obtain ⟨wo, rfl⟩ : ∃ wo : World, wo = wr := ⟨_, rfl⟩
        go_wp2
        go_loopw [8, 40] (fun t i wi => ∃ (j q : Nat) (zs : List Nat), j ≤ vs.length ∧ i = .int .i64 j ∧ t = .int .u64 q ∧ q < 4294967296 ∧ zs.length = us.length + vs.length ∧ Lb zs ∧ Row wi w.heap.size zs ∧ Below w.heap.size w wi ∧ (∀ n, k + j ≤ n → zs[n]?.getD 0 = ps[n]?.getD 0) ∧ val zs + Ba ^ (k + j) * q = val ps + x * Ba ^ k * val (vs.take j)) (fun _ i _ => vs.length - (intOf i).toNat)
        case atStart => exact ⟨0, 0, ps, Nat.zero_le _, rfl, rfl, by omega, HL.out, hz, hrow, hbel, fun n _ => rfl, by simp [val]⟩
        case round =>
          obtain ⟨j, q, zs, hj, rfl, rfl, hq, hl2, hz2, hrow2, hbel2, hsame, hv2⟩ := hrel
          have HV2 := Lib.hid hv2
          have HS2 := Lib.hid hsame
          have HL2 := Lib.hid hl2
          clear hv2 hsame hl2
          by_cases hlt2 : j < vs.length
          · obtain ⟨b2, o2, rfl, hb2, hc2⟩ := hb.at_ (by omega)
            have hy := (hbel2.cell (p := ⟨b2, o2 + j, none⟩) hb2).trans (hc2 j hlt2)
            have bY : vs[j]?.getD 0 < 4294967296 := hb.lb.get j
            have hzc := hrow2.cell (i := k + j) (by rw [HL2.out]; omega)
            have hzf := hrow2.frozen (k + j)
            have bz : zs[k + j]?.getD 0 < 4294967296 := hz2.get (k + j)
            have hstep := mul_step (ys := vs) (zs := zs) (i := k) (j := j) (c := q) (x := x) (T := val ps) (by rw [HL2.out]; omega) HV2.out
            obtain ⟨y, ey⟩ : ∃ y, vs[j]?.getD 0 = y := ⟨_, rfl⟩
            obtain ⟨z, ez⟩ : ∃ z, zs[k + j]?.getD 0 = z := ⟨_, rfl⟩
            rw [ey] at hy bY hstep
            rw [ez] at hzc bz hstep
            have hpb := Nat.mul_le_mul (Nat.le_pred_of_lt bx) (Nat.le_pred_of_lt bY)
            have hpe : (x : Int) * (y : Int) = ((x * y : Nat) : Int) := (Int.natCast_mul x y).symm
            obtain ⟨p, ep⟩ : ∃ p, x * y = p := ⟨_, rfl⟩
            rw [ep] at hpe hpb hstep
            have hpb' : p ≤ 18446744065119617025 := hpb
            have EPQ : Hid (q + p + z = q + (p + z)) := Nat.add_assoc q p z
            rw [EPQ.out] at hstep
            have HST := Lib.hid hstep
            have hr := hrow2.put (k + j) ((q + (p + z)) % Ba) (z := ((q : Int) + (p + z)) % 4294967296) (by simp only [Ba_eq]; omega)
            have HPE := Lib.hid hpe
            clear ey ez ep hc2 hpb hstep hpe
            have hpe : (x : Int) * (y : Int) = (p : Int) := HPE.out
            go_wp2
            go_roundw
            case rel => exact ⟨j + 1, (q + (p + z)) / Ba, zs.set (k + j) ((q + (p + z)) % Ba), by omega, by go_num, by simp only [Ba_eq]; go_num, by simp only [Ba_eq]; omega, by rw [List.length_set]; exact HL2.out, hz2.set _ _ (Nat.mod_lt _ Ba_pos), hr, hbel2.setCell (Nat.le_refl _) _, fun n hn => by rw [get_set_ne _ (by omega)]; exact HS2.out n (by omega), HST.out⟩
            case measure => simp [intOf]; omega
          · obtain rfl : j = vs.length := by omega
            have hs1 := hrow2.cell (i := k + vs.length) (by rw [HL2.out]; omega)
            have hs2 := hrow2.frozen (k + vs.length)
            have ez : zs[k + vs.length]?.getD 0 = 0 := by rw [HS2.out _ (Nat.le_refl _)]; exact H0.out _ (Nat.le_refl _)
            rw [ez] at hs1
            have hr := hrow2.put (k + vs.length) q (z := (q : Int)) rfl
            have e3 := val_set (zs := zs) (k := k + vs.length) q (by rw [HL2.out]; omega)
            rw [ez] at e3
            have hval : val (zs.set (k + vs.length) q) = val (us.take (k + 1)) * val vs := by
              have h1 := HV2.out
              rw [List.take_of_length_le (Nat.le_refl _), HV.out] at h1
              rw [HTS.out]
              grind
            have HVAL := Lib.hid hval
            clear ez e3 hval
            go_wp2
            go_roundw
            case rel => exact ⟨k + 1, zs.set (k + vs.length) q, by omega, by go_num, by rw [List.length_set]; exact HL2.out, hz2.set _ _ (by have := Ba_eq; omega), hr, hbel2.setCell (Nat.le_refl _) _, fun n hn => by rw [get_set_ne _ (by omega), HS2.out n (by omega)]; exact H0.out n (by omega), HVAL.out⟩
            case measure => simp [intOf]; omega
    · obtain rfl : k = us.length := by omega
      have hval : val ps = val xs * val ys := by
        rw [HV.out, List.take_of_length_le (Nat.le_refl _), EA.out, EB.out]
      have HVAL := Lib.hid hval
      clear hval
      go_wp2_with fail
      refine (cut_own hrow hz (Nat.le_refl _) HL.out (by omega) HVAL.out hbel).mono ?_
      rintro e w' ⟨A', c', rfl, r3, r4⟩
      go_wp2
      go_ret
      exact ⟨A', c', rfl, r3, r4⟩

/-- the product, by the lengths without zero limbs at the end -/
theorem Mul_w (A B : Option Addr) (xs ys : List Nat) (c d : Nat) (w : World) (ha : Lim w A c xs) (hb : Lim w B d ys) (hs : (limbs (val xs)).length + (limbs (val ys)).length ≤ 70368744177664) :
    Calls Try.prog 20 #[.slice A xs.length c, .slice B ys.length d] w (RetNat w (val xs * val ys)) := by
  by_cases hx : val xs = 0
  · exact Mul_zero A B xs ys c d w ha hb (.inl hx)
  · by_cases hy : val ys = 0
    · exact Mul_zero A B xs ys c d w ha hb (.inr hy)
    · exact Mul_pos A B xs ys c d w ha hb hx hy hs
/-- the product -/
theorem Mul_c (A B : Option Addr) (xs ys : List Nat) (c d : Nat) (w : World) (ha : Lim w A c xs) (hb : Lim w B d ys) (hs : xs.length + ys.length ≤ 70368744177664) :
    Calls Try.prog 20 #[.slice A xs.length c, .slice B ys.length d] w (RetNat w (val xs * val ys)) :=
  Mul_w A B xs ys c d w ha hb (by have := limbs_length_le ha.lb; have := limbs_length_le hb.lb; omega)

end Go.Proofs.Ytkpchamgghhihaa
