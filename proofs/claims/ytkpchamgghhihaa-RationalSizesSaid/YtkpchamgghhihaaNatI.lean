/- Contracts of package natural: shifts. -/
import Derived.Test.YtkpchamgghhihaaNatG
import Derived.Test.YtkpchamgghhihaaArithB
import Derived.Test.YtkpchamgghhihaaBits
namespace Go.Proofs.Ytkpchamgghhihaa
open Go.RowKit Gm

/-- what a function returns that makes a row of limbs -/
def RetRow (w : World) (k n : Nat) (e : Ending) (w' : World) : Prop :=
  ∃ zs, e = .returned (.slice (some ⟨w.heap.size, 0, none⟩) k k) ∧ zs.length = k ∧ Lb zs ∧ val zs = n ∧ Row w' w.heap.size zs ∧ Below w.heap.size w w'

theorem or_shl (q x s : Nat) (hq : q < 2 ^ s) (hx : x < 4294967296) (hs : s < 32) : bits .or .u64 (q : Int) (IntKind.u64.wrap ((x : Int) * 2 ^ s)) = ((q + x * 2 ^ s : Nat) : Int) := by
  have h1 : 2 ^ s ≤ 2147483648 := Nat.pow_le_pow_right (by decide) (show s ≤ 31 by omega)
  have h2 : x * 2 ^ s ≤ 4294967295 * 2147483648 := Nat.mul_le_mul (by omega) h1
  have e : (x : Int) * 2 ^ s = ((x * 2 ^ s : Nat) : Int) := by simp
  have e2 : IntKind.u64.wrap ((x : Int) * 2 ^ s) = ((x * 2 ^ s : Nat) : Int) := by rw [e, IntKind.wrap_u64]; omega
  rw [e2, u64_or_nat _ _ (by omega) (by omega), Nat.or_comm]
  have h3 := Nat.shiftLeft_add_eq_or_of_lt hq x
  rw [Nat.shiftLeft_eq] at h3
  rw [← h3, Nat.add_comm]

set_option maxHeartbeats 1000000 in
theorem shifted_c (A : Option Addr) (us : List Nat) (c s : Nat) (w : World) (ha : Lim w A c us) (hs : us.length < 70368744177664) (h32 : s < 32) :
    Calls Try.prog 71 #[.slice A us.length c, .int .i64 (s : Int)] w (RetRow w (us.length + 1) (val us * 2 ^ s)) := by
  have hmk := mk_run (↑us.length + 1) (us.length + 1) (by omega) (by omega)
  obtain ⟨p, hp⟩ : ∃ p, 2 ^ s = p := ⟨_, rfl⟩
  have hp1 : p ≤ 2147483648 := by rw [← hp]; exact Nat.pow_le_pow_right (by decide) (show s ≤ 31 by omega)
  have hp0 : 0 < p := by rw [← hp]; exact Nat.pow_pos (by decide)
  have HP := Lib.hid hp
  rw [hp]
  clear hp
  go_enter Try.func71, Try.ntmps71
  go_wp2_with fail
  go_loopw [6, 15] (fun t i wr => ∃ (k q : Nat) (zs : List Nat), k ≤ us.length ∧ i = .int .i64 k ∧ t = .int .u64 q ∧ q < p ∧ zs.length = us.length + 1 ∧ Lb zs ∧ Row wr w.heap.size zs ∧ Below w.heap.size w wr ∧ (∀ j, k ≤ j → zs[j]?.getD 0 = 0) ∧ val zs + Ba ^ k * q = val (us.take k) * p) (fun _ i _ => us.length - (intOf i).toNat)
  case atStart => exact ⟨0, 0, zeros (us.length + 1), Nat.zero_le _, rfl, rfl, by omega, zeros_length _, zeros_lb _, Row.new _ _, (Below.refl _ _).alloc (Nat.le_refl _) _, fun j _ => zeros_get _ _, by simp [zeros_val, val]⟩
  case round =>
    obtain ⟨k, q, zs, hk, rfl, rfl, hq, hl, hz, hrow, hbel, h0, hv⟩ := hrel
    have HV := Lib.hid hv
    have H0 := Lib.hid h0
    have HL := Lib.hid hl
    clear hv h0 hl hmk
    by_cases hlt : k < us.length
    · obtain ⟨b1, o1, rfl, hb1, hc1⟩ := ha.at_ (by omega)
      have hx := (hbel.cell (p := ⟨b1, o1 + k, none⟩) hb1).trans (hc1 k hlt)
      have bx : us[k]?.getD 0 < 4294967296 := ha.lb.get k
      obtain ⟨x, ex⟩ : ∃ x, us[k]?.getD 0 = x := ⟨_, rfl⟩
      rw [ex] at hx bx
      have EX := Lib.hid ex
      have hs1 := hrow.cell (i := k) (by rw [HL.out]; omega)
      have hs2 := hrow.frozen k
      rw [H0.out k (Nat.le_refl _)] at hs1
      clear ex hc1
      have hor := or_shl q x s (by rw [HP.out]; exact hq) bx h32
      rw [HP.out] at hor
      have hstep := shl_step (xs := us) (zs := zs) (i := k) (c := q) (s := s) (by rw [HL.out]; omega) H0.out (by rw [HP.out]; exact HV.out)
      have hcar := shl_carry (c := q) (x := x) (p := p) hq bx
      rw [EX.out, HP.out] at hstep
      obtain ⟨V, eV⟩ : ∃ V, q + x * p = V := ⟨_, rfl⟩
      rw [eV] at hor hstep hcar
      have HST := Lib.hid hstep
      have hr := hrow.put k (V % Ba) (z := (V : Int) % 4294967296) (by simp only [Ba_eq]; omega)
      clear eV hstep
      go_wp2
      go_roundw
      case rel => exact ⟨k + 1, V / Ba, zs.set k (V % Ba), by omega, by go_num, by simp only [Ba_eq]; go_num, hcar, by rw [List.length_set]; exact HL.out, hz.set _ _ (Nat.mod_lt _ Ba_pos), hr, hbel.setCell (Nat.le_refl _) _, zeros_step H0.out, HST.out⟩
      case measure => simp [intOf]; omega
    · obtain rfl : k = us.length := by omega
      have hs1 := hrow.cell (i := us.length) (by rw [HL.out]; omega)
      have hs2 := hrow.frozen us.length
      rw [H0.out us.length (Nat.le_refl _)] at hs1
      have hr := hrow.put us.length q (z := (q : Int)) rfl
      have hval : val (zs.set us.length q) = val us * p := by
        have e1 := val_set (zs := zs) (k := us.length) q (by rw [HL.out]; omega)
        rw [H0.out us.length (Nat.le_refl _)] at e1
        have := HV.out
        rw [List.take_of_length_le (Nat.le_refl _)] at this
        omega
      have hlen : (zs.set us.length q).length = us.length + 1 := by rw [List.length_set]; exact HL.out
      have hzl := hz.set us.length q (by have := Ba_eq; omega)
      have hb2 := hbel.setCell (p := ⟨w.heap.size, us.length, none⟩) (Nat.le_refl _) (.int .u32 (q : Int))
      have HVAL := Lib.hid hval
      have HLEN := Lib.hid hlen
      clear hval hlen
      go_wp2
      go_ret
      exact ⟨_, rfl, HLEN.out, hzl, HVAL.out, hr, hb2⟩

theorem Lim.drop {w : World} {b o c : Nat} {xs : List Nat} (h : Lim w (some ⟨b, o, none⟩) c xs) (d : Nat) (hd : d < xs.length) : Lim w (some ⟨b, o + d, none⟩) (c - d) (xs.drop d) := by
  obtain ⟨b', o', e, hb, hc⟩ := h.at_ (by omega)
  injection e with e
  injection e with e1 e2
  subst e1 e2
  refine ⟨h.lb.drop d, by have := h.cap; simp; omega, by have := h.max; omega, fun _ => ⟨b, o + d, rfl, hb, fun k hk => ?_⟩⟩
  have hk' : k < xs.length - d := by simpa using hk
  have := hc (d + k) (by omega)
  rw [List.getElem?_drop, Nat.add_assoc]
  exact this
theorem pow_split (n : Nat) : 2 ^ n = Ba ^ (n / 32) * 2 ^ (n % 32) := by
  have h : Ba ^ (n / 32) = 2 ^ (32 * (n / 32)) := by rw [Nat.pow_mul]; rfl
  rw [h, ← Nat.pow_add]
  congr 1
  omega
theorem shr_all {us : List Nat} {n d s : Nat} (hl : Lb us) (hd : n / 32 = d) (hs : n % 32 = s) (hle : d ≤ us.length) : val us / 2 ^ n = val (us.drop d) / 2 ^ s := by
  rw [pow_split n, hd, hs, ← Nat.div_div_eq_div_mul, val_div us hl d hle]
theorem shr_zero {us : List Nat} {n : Nat} (hl : Lb us) (hle : us.length ≤ n / 32) : val us / 2 ^ n = 0 := by
  rw [pow_split n, ← Nat.div_div_eq_div_mul]
  have h1 := val_lt hl
  have h2 : Ba ^ us.length ≤ Ba ^ (n / 32) := Nat.pow_le_pow_right Ba_pos hle
  have h3 : val us / Ba ^ (n / 32) = 0 := Nat.div_eq_of_lt (by omega)
  rw [h3, Nat.zero_div]
theorem shr_cast (V s p : Nat) (h : 2 ^ s = p) : (V : Int) / 2 ^ s = ((V / p : Nat) : Int) := by
  subst h; simp

set_option maxHeartbeats 1000000 in
theorem ShiftRight_zero (A : Option Addr) (xs : List Nat) (c n : Nat) (w : World) (ha : Lim w A c xs) (hn : n ≤ 9223372036854775807) (hle : (limbs (val xs)).length ≤ n / 32) :
    Calls Try.prog 17 #[.slice A xs.length c, .int .i64 (n : Int)] w (RetNatOk w (val xs / 2 ^ n)) := by
  have h0 : val xs / 2 ^ n = 0 := by
    have := shr_zero (Lb_limbs (val xs)) hle
    rw [val_limbs] at this
    exact this
  rw [h0]
  clear h0
  have hle' : (((limbs (val xs)).length : Nat) : Int) ≤ (n : Int) / 32 := by omega
  go_enter Try.func17, Try.ntmps17
  go_wp2_with fail
  refine (cut_c _ _ _ _ ha).mono ?_
  rintro e w' ⟨rfl, rfl⟩
  generalize (limbs (val xs)).length = m at *
  go_wp2_with fail
  go_ret2
  exact ⟨none, 0, by rw [limbs_zero]; rfl, by rw [limbs_zero]; exact Own.nil _ _ _, Below.refl _ _⟩

set_option maxHeartbeats 2000000 in
theorem ShiftRight_pos (A : Option Addr) (xs : List Nat) (c n : Nat) (w : World) (ha : Lim w A c xs) (hs : xs.length ≤ 70368744177664) (hn : n ≤ 9223372036854775807) (hlt : n / 32 < (limbs (val xs)).length) :
    Calls Try.prog 17 #[.slice A xs.length c, .int .i64 (n : Int)] w (RetNatOk w (val xs / 2 ^ n)) := by
  have la := limbs_length_le ha.lb
  have ha2 := ha.cut
  have EA := val_limbs (val xs)
  obtain ⟨b1, o1, rfl, hb1, _⟩ := ha2.at_ (by omega)
  obtain ⟨us, hus⟩ : ∃ us, limbs (val xs) = us := ⟨_, rfl⟩
  obtain ⟨d, hd⟩ : ∃ d, n / 32 = d := ⟨_, rfl⟩
  obtain ⟨s, hsm⟩ : ∃ s, n % 32 = s := ⟨_, rfl⟩
  rw [hus] at ha2 la EA hlt
  rw [hd] at hlt
  have hcap := ha2.cap
  have hmax := ha2.max
  have e1 : (n : Int) / 32 = (d : Int) := by omega
  have e2 : (n : Int) % 32 = (s : Int) := by omega
  have h32 : s < 32 := by omega
  have hv := shr_all ha2.lb hd hsm (Nat.le_of_lt hlt)
  rw [EA] at hv
  rw [hv]
  have hvs := ha2.drop d hlt
  have hvl : (us.drop d).length = us.length - d := by simp
  obtain ⟨vs, evs⟩ : ∃ vs, us.drop d = vs := ⟨_, rfl⟩
  obtain ⟨m, em⟩ : ∃ m, us.length - d = m := ⟨_, rfl⟩
  rw [evs] at hvs hvl ⊢
  rw [em] at hvl
  have hm1 : m ≤ us.length := by omega
  have hm0 : 0 < m := by omega
  have HL := Lib.hid hvl
  obtain ⟨b2, o2, e3, hb2, hc2⟩ := hvs.at_ (by rw [hvl]; exact hm0)
  injection e3 with e3
  injection e3 with e4 e5
  subst e4 e5
  have hne : ¬ c = d := by omega
  have hmk := mk_run (↑m) m rfl (by omega)
  obtain ⟨p, hp⟩ : ∃ p, 2 ^ s = p := ⟨_, rfl⟩
  have hp0 : 0 < p := by rw [← hp]; exact Nat.pow_pos (by decide)
  have HC := Lib.hid hc2
  have HP := Lib.hid hp
  have HSH := Lib.hid (fun V : Nat => shr_cast V s p hp)
  have HUS := Lib.hid (show (limbs (val xs)).length = us.length by rw [hus])
  have EM := Lib.hid em
  rw [hp]
  have i1 : (d : Int) ≤ (us.length : Int) := by omega
  have i2 : ¬ (us.length : Int) ≤ (d : Int) := by omega
  have e6 : (n : Int).tmod 32 = (s : Int) := by rw [Int.tmod_eq_emod_of_nonneg (by omega)]; exact e2
  clear hv hus hd hsm EA evs hvl hc2 hp ha2 EM
  go_enter Try.func17, Try.ntmps17
  go_wp2_with fail
  refine (cut_c _ _ _ _ ha).mono ?_
  rintro e w' ⟨rfl, rfl⟩
  rw [HUS.out]
  go_wp2_with fail
  go_loopw [31] (fun i wr => ∃ (k : Nat) (zs : List Nat), k ≤ m ∧ i = .int .i64 k ∧ zs.length = m ∧ Lb zs ∧ Row wr w.heap.size zs ∧ Below w.heap.size w wr ∧ (∀ j, k ≤ j → zs[j]?.getD 0 = 0) ∧ val zs = val vs / 2 ^ s % Ba ^ k) (fun i _ => m - (intOf i).toNat)
  case atStart => exact ⟨0, zeros m, Nat.zero_le _, rfl, zeros_length _, zeros_lb _, Row.new _ _, (Below.refl _ _).alloc (Nat.le_refl _) _, fun j _ => zeros_get _ _, by simp [zeros_val, Nat.mod_one]⟩
  case round =>
    obtain ⟨k, zs, hk, rfl, hl, hz, hrow, hbel, h0, hv⟩ := hrel
    have HV := Lib.hid hv
    have H0 := Lib.hid h0
    have HZ := Lib.hid hl
    clear hv h0 hl hmk
    by_cases hkm : k < m
    · have hx := (hbel.cell (p := ⟨b1, o1 + d + k, none⟩) hb1).trans (HC.out k (by rw [HL.out]; exact hkm))
      have bx : vs[k]?.getD 0 < 4294967296 := hvs.lb.get k
      have bY : vs[k + 1]?.getD 0 < 4294967296 := hvs.lb.get (k + 1)
      have hstep := shr_step (xs := vs) (zs := zs) (i := k) (s := s) hvs.lb (by rw [HZ.out]; exact hkm) (by rw [HL.out]; exact hkm) H0.out (by omega) HV.out
      obtain ⟨x, ex⟩ : ∃ x, vs[k]?.getD 0 = x := ⟨_, rfl⟩
      obtain ⟨y, ey⟩ : ∃ y, vs[k + 1]?.getD 0 = y := ⟨_, rfl⟩
      rw [ex] at hx bx hstep
      rw [ey] at bY hstep
      have EY := Lib.hid ey
      have hs1 := hrow.cell (i := k) (by rw [HZ.out]; exact hkm)
      have hs2 := hrow.frozen k
      rw [H0.out k (Nat.le_refl _)] at hs1
      rw [HP.out] at hstep
      clear ex ey
      by_cases hk1 : k + 1 < m
      · have hy := (hbel.cell (p := ⟨b1, o1 + d + (k + 1), none⟩) hb1).trans (HC.out (k + 1) (by rw [HL.out]; exact hk1))
        rw [EY.out] at hy
        have hor := or_hi x y bx bY
        have hsh := HSH.out (x + 4294967296 * y)
        obtain ⟨V, eV⟩ : ∃ V, x + Ba * y = V := ⟨_, rfl⟩
        rw [show x + 4294967296 * y = V from eV] at hor hsh
        rw [eV] at hstep
        have HST := Lib.hid hstep
        have hr := hrow.put k (V / p % Ba) (z := (V : Int) / (p : Int) % 4294967296) (by rw [Ba_eq]; simp)
        clear eV hstep
        go_wp2
        go_roundw
        case rel => exact ⟨k + 1, zs.set k (V / p % Ba), by omega, by go_num, by rw [List.length_set]; exact HZ.out, hz.set _ _ (Nat.mod_lt _ Ba_pos), hr, hbel.setCell (Nat.le_refl _) _, zeros_step H0.out, by rw [HP.out]; exact HST.out⟩
        case measure => simp [intOf]; omega
      · have hy0 : y = 0 := by rw [← EY.out, List.getElem?_eq_none (by rw [HL.out]; omega)]; rfl
        rw [hy0, Nat.mul_zero, Nat.add_zero] at hstep
        have hsh := HSH.out x
        have HST := Lib.hid hstep
        have hk2 : ¬ (k : Int) + 1 < (m : Int) := by omega
        have hr := hrow.put k (x / p % Ba) (z := (x : Int) / (p : Int) % 4294967296) (by rw [Ba_eq]; simp)
        clear hy0 hstep EY bY
        go_wp2
        go_roundw
        case rel => exact ⟨k + 1, zs.set k (x / p % Ba), by omega, by go_num, by rw [List.length_set]; exact HZ.out, hz.set _ _ (Nat.mod_lt _ Ba_pos), hr, hbel.setCell (Nat.le_refl _) _, zeros_step H0.out, by rw [HP.out]; exact HST.out⟩
        case measure => simp [intOf]; omega
    · obtain rfl : k = m := by omega
      have hval : val zs = val vs / p := by
        rw [HV.out, HP.out]
        apply Nat.mod_eq_of_lt
        have h1 := val_lt hvs.lb
        rw [HL.out] at h1
        exact Nat.lt_of_le_of_lt (Nat.div_le_self _ _) h1
      have HVAL := Lib.hid hval
      clear hval
      go_wp2_with fail
      refine (cut_own hrow hz (Nat.le_refl _) HZ.out (by omega) HVAL.out hbel).mono ?_
      rintro e w' ⟨A', c', rfl, r3, r4⟩
      go_wp2
      go_ret2
      exact ⟨A', c', rfl, r3, r4⟩

/-- the shift to the right -/
theorem ShiftRight_c (A : Option Addr) (xs : List Nat) (c n : Nat) (w : World) (ha : Lim w A c xs) (hs : xs.length ≤ 70368744177664) (hn : n ≤ 9223372036854775807) :
    Calls Try.prog 17 #[.slice A xs.length c, .int .i64 (n : Int)] w (RetNatOk w (val xs / 2 ^ n)) := by
  rcases Nat.lt_or_ge (n / 32) (limbs (val xs)).length with h | h
  · exact ShiftRight_pos A xs c n w ha hs hn h
  · exact ShiftRight_zero A xs c n w ha hn h
end Go.Proofs.Ytkpchamgghhihaa
