/- NatI NatJ NatK in one text. -/
import Derived.Test.YtaeidephegnkdaaMB
import Derived.Test.YtaeidephegnkdaaArithB
import Derived.Test.YtaeidephegnkdaaBits
import Derived.Deep.CutBlock
import Derived.Deep.DeepCutAuto
namespace Go.Proofs.Ytaeidephegnkdaa
open Go.RowKit Gm
/- Contracts of package natural: shifts. -/

/-- what a function returns that makes a row of limbs -/
def RetRow (w : World) (k n : Nat) (e : Ending) (w' : World) : Prop :=
  ∃ zs, e = .returned (.slice (some ⟨w.heap.size, 0, none⟩) k k) ∧ zs.length = k ∧ Lb zs ∧ val zs = n ∧ Row w' w.heap.size zs ∧ Below w.heap.size w w'

theorem or_shl (q x s : Nat) (hq : q < 2 ^ s) (hx : x < 4294967296) (hs : s < 32) : bits .or .u64 (q : Int) (IntKind.u64.wrap ((x : Int) * 2 ^ s)) = ((q + x * 2 ^ s : Nat) : Int) := by
  have h1 : 2 ^ s ≤ 2147483648 := Nat.pow_le_pow_right (by decide) (show s ≤ 31 by omega)
  have h2 : x * 2 ^ s ≤ 4294967295 * 2147483648 := Nat.mul_le_mul (by omega) h1
  have e : (x : Int) * 2 ^ s = ((x * 2 ^ s : Nat) : Int) := by simp
  have e2 : IntKind.u64.wrap ((x : Int) * 2 ^ s) = ((x * 2 ^ s : Nat) : Int) := by rw [e, IntKind.wrap_u64]; omega
  rw [e2, u64_or_nat _ _ (by omega) (by omega), Nat.or_comm]
  have h3 := Nat.shiftLeft_add_eq_or_of_lt hq x
  rw [Nat.shiftLeft_eq] at h3
  rw [← h3, Nat.add_comm]

set_option maxHeartbeats 1000000 in
theorem shifted_c (A : Option Addr) (us : List Nat) (c s : Nat) (w : World) (ha : Lim w A c us) (hs : us.length < 70368744177664) (h32 : s < 32) :
    Calls Try.prog 122 #[.slice A us.length c, .int .i64 (s : Int)] w (RetRow w (us.length + 1) (val us * 2 ^ s)) := by
  have hmk := mk_run (↑us.length + 1) (us.length + 1) (by omega) (by omega)
  obtain ⟨p, hp⟩ : ∃ p, 2 ^ s = p := ⟨_, rfl⟩
  have hp1 : p ≤ 2147483648 := by rw [← hp]; exact Nat.pow_le_pow_right (by decide) (show s ≤ 31 by omega)
  have hp0 : 0 < p := by rw [← hp]; exact Nat.pow_pos (by decide)
  have HP := Lib.hid hp
  rw [hp]
  clear hp
  go_enter Try.func122, Try.ntmps122
  go_wp2_with fail
  go_loopw [6, 15] (fun t i wr => ∃ (k q : Nat) (zs : List Nat), k ≤ us.length ∧ i = .int .i64 k ∧ t = .int .u64 q ∧ q < p ∧ zs.length = us.length + 1 ∧ Lb zs ∧ Row wr w.heap.size zs ∧ Below w.heap.size w wr ∧ (∀ j, k ≤ j → zs[j]?.getD 0 = 0) ∧ val zs + Ba ^ k * q = val (us.take k) * p) (fun _ i _ => us.length - (intOf i).toNat)
  case atStart => exact ⟨0, 0, zeros (us.length + 1), Nat.zero_le _, rfl, rfl, by omega, zeros_length _, zeros_lb _, Row.new _ _, (Below.refl _ _).alloc (Nat.le_refl _) _, fun j _ => zeros_get _ _, by simp [zeros_val, val]⟩
  case round =>
    obtain ⟨k, q, zs, hk, rfl, rfl, hq, hl, hz, hrow, hbel, h0, hv⟩ := hrel
    have HV := Lib.hid hv
    have H0 := Lib.hid h0
    have HL := Lib.hid hl
    clear hv h0 hl hmk
    by_cases hlt : k < us.length
    · obtain ⟨b1, o1, rfl, hb1, hc1⟩ := ha.at_ (by omega)
      have hx := (hbel.cell (p := ⟨b1, o1 + k, none⟩) hb1).trans (hc1 k hlt)
      have bx : us[k]?.getD 0 < 4294967296 := ha.lb.get k
      obtain ⟨x, ex⟩ : ∃ x, us[k]?.getD 0 = x := ⟨_, rfl⟩
      rw [ex] at hx bx
      have EX := Lib.hid ex
      have hs1 := hrow.cell (i := k) (by rw [HL.out]; omega)
      have hs2 := hrow.frozen k
      rw [H0.out k (Nat.le_refl _)] at hs1
      clear ex hc1
      have hor := or_shl q x s (by rw [HP.out]; exact hq) bx h32
      rw [HP.out] at hor
      have hstep := shl_step (xs := us) (zs := zs) (i := k) (c := q) (s := s) (by rw [HL.out]; omega) H0.out (by rw [HP.out]; exact HV.out)
      have hcar := shl_carry (c := q) (x := x) (p := p) hq bx
      rw [EX.out, HP.out] at hstep
      obtain ⟨V, eV⟩ : ∃ V, q + x * p = V := ⟨_, rfl⟩
      rw [eV] at hor hstep hcar
      have HST := Lib.hid hstep
      have hr := hrow.put k (V % Ba) (z := (V : Int) % 4294967296) (by simp only [Ba_eq]; omega)
      clear eV hstep
      go_wp2
      go_roundw
      case rel => exact ⟨k + 1, V / Ba, zs.set k (V % Ba), by omega, by go_num, by simp only [Ba_eq]; go_num, hcar, by rw [List.length_set]; exact HL.out, hz.set _ _ (Nat.mod_lt _ Ba_pos), hr, hbel.setCell (Nat.le_refl _) _, zeros_step H0.out, HST.out⟩
      case measure => simp [intOf]; omega
    · obtain rfl : k = us.length := by omega
      have hs1 := hrow.cell (i := us.length) (by rw [HL.out]; omega)
      have hs2 := hrow.frozen us.length
      rw [H0.out us.length (Nat.le_refl _)] at hs1
      have hr := hrow.put us.length q (z := (q : Int)) rfl
      have hval : val (zs.set us.length q) = val us * p := by
        have e1 := val_set (zs := zs) (k := us.length) q (by rw [HL.out]; omega)
        rw [H0.out us.length (Nat.le_refl _)] at e1
        have := HV.out
        rw [List.take_of_length_le (Nat.le_refl _)] at this
        omega
      have hlen : (zs.set us.length q).length = us.length + 1 := by rw [List.length_set]; exact HL.out
      have hzl := hz.set us.length q (by have := Ba_eq; omega)
      have hb2 := hbel.setCell (p := ⟨w.heap.size, us.length, none⟩) (Nat.le_refl _) (.int .u32 (q : Int))
      have HVAL := Lib.hid hval
      have HLEN := Lib.hid hlen
      clear hval hlen
      go_wp2
      go_ret
      exact ⟨_, rfl, HLEN.out, hzl, HVAL.out, hr, hb2⟩

theorem Lim.drop {w : World} {b o c : Nat} {xs : List Nat} (h : Lim w (some ⟨b, o, none⟩) c xs) (d : Nat) (hd : d < xs.length) : Lim w (some ⟨b, o + d, none⟩) (c - d) (xs.drop d) := by
  obtain ⟨b', o', e, hb, hc⟩ := h.at_ (by omega)
  injection e with e
  injection e with e1 e2
  subst e1 e2
  refine ⟨h.lb.drop d, by have := h.cap; simp; omega, by have := h.max; omega, fun _ => ⟨b, o + d, rfl, hb, fun k hk => ?_⟩⟩
  have hk' : k < xs.length - d := by simpa using hk
  have := hc (d + k) (by omega)
  rw [List.getElem?_drop, Nat.add_assoc]
  exact this
theorem pow_split (n : Nat) : 2 ^ n = Ba ^ (n / 32) * 2 ^ (n % 32) := by
  have h : Ba ^ (n / 32) = 2 ^ (32 * (n / 32)) := by rw [Nat.pow_mul]; rfl
  rw [h, ← Nat.pow_add]
  congr 1
  omega
theorem shr_all {us : List Nat} {n d s : Nat} (hl : Lb us) (hd : n / 32 = d) (hs : n % 32 = s) (hle : d ≤ us.length) : val us / 2 ^ n = val (us.drop d) / 2 ^ s := by
  rw [pow_split n, hd, hs, ← Nat.div_div_eq_div_mul, val_div us hl d hle]
theorem shr_zero {us : List Nat} {n : Nat} (hl : Lb us) (hle : us.length ≤ n / 32) : val us / 2 ^ n = 0 := by
  rw [pow_split n, ← Nat.div_div_eq_div_mul]
  have h1 := val_lt hl
  have h2 : Ba ^ us.length ≤ Ba ^ (n / 32) := Nat.pow_le_pow_right Ba_pos hle
  have h3 : val us / Ba ^ (n / 32) = 0 := Nat.div_eq_of_lt (by omega)
  rw [h3, Nat.zero_div]
theorem shr_cast (V s p : Nat) (h : 2 ^ s = p) : (V : Int) / 2 ^ s = ((V / p : Nat) : Int) := by
  subst h; simp

set_option maxHeartbeats 1000000 in
theorem ShiftRight_zero (A : Option Addr) (xs : List Nat) (c n : Nat) (w : World) (ha : Lim w A c xs) (hn : n ≤ 9223372036854775807) (hle : (limbs (val xs)).length ≤ n / 32) :
    Calls Try.prog 124 #[.slice A xs.length c, .int .i64 (n : Int)] w (RetNatOk w (val xs / 2 ^ n)) := by
  have h0 : val xs / 2 ^ n = 0 := by
    have := shr_zero (Lb_limbs (val xs)) hle
    rw [val_limbs] at this
    exact this
  rw [h0]
  clear h0
  have hle' : (((limbs (val xs)).length : Nat) : Int) ≤ (n : Int) / 32 := by omega
  go_enter Try.func124, Try.ntmps124
  go_wp2_with fail
  refine (cut_c _ _ _ _ ha).mono ?_
  rintro e w' ⟨rfl, rfl⟩
  generalize (limbs (val xs)).length = m at *
  go_wp2_with fail
  go_ret2
  exact ⟨none, 0, by rw [limbs_zero]; rfl, by rw [limbs_zero]; exact Own.nil _ _ _, Below.refl _ _⟩

set_option maxHeartbeats 2000000 in
theorem ShiftRight_pos (A : Option Addr) (xs : List Nat) (c n : Nat) (w : World) (ha : Lim w A c xs) (hs : xs.length ≤ 70368744177664) (hn : n ≤ 9223372036854775807) (hlt : n / 32 < (limbs (val xs)).length) :
    Calls Try.prog 124 #[.slice A xs.length c, .int .i64 (n : Int)] w (RetNatOk w (val xs / 2 ^ n)) := by
  have la := limbs_length_le ha.lb
  have ha2 := ha.cut
  have EA := val_limbs (val xs)
  obtain ⟨b1, o1, rfl, hb1, _⟩ := ha2.at_ (by omega)
  obtain ⟨us, hus⟩ : ∃ us, limbs (val xs) = us := ⟨_, rfl⟩
  obtain ⟨d, hd⟩ : ∃ d, n / 32 = d := ⟨_, rfl⟩
  obtain ⟨s, hsm⟩ : ∃ s, n % 32 = s := ⟨_, rfl⟩
  rw [hus] at ha2 la EA hlt
  rw [hd] at hlt
  have hcap := ha2.cap
  have hmax := ha2.max
  have e1 : (n : Int) / 32 = (d : Int) := by omega
  have e2 : (n : Int) % 32 = (s : Int) := by omega
  have h32 : s < 32 := by omega
  have hv := shr_all ha2.lb hd hsm (Nat.le_of_lt hlt)
  rw [EA] at hv
  rw [hv]
  have hvs := ha2.drop d hlt
  have hvl : (us.drop d).length = us.length - d := by simp
  obtain ⟨vs, evs⟩ : ∃ vs, us.drop d = vs := ⟨_, rfl⟩
  obtain ⟨m, em⟩ : ∃ m, us.length - d = m := ⟨_, rfl⟩
  rw [evs] at hvs hvl ⊢
  rw [em] at hvl
  have hm1 : m ≤ us.length := by omega
  have hm0 : 0 < m := by omega
  have HL := Lib.hid hvl
  obtain ⟨b2, o2, e3, hb2, hc2⟩ := hvs.at_ (by rw [hvl]; exact hm0)
  injection e3 with e3
  injection e3 with e4 e5
  subst e4 e5
  have hne : ¬ c = d := by omega
  have hmk := mk_run (↑m) m rfl (by omega)
  obtain ⟨p, hp⟩ : ∃ p, 2 ^ s = p := ⟨_, rfl⟩
  have hp0 : 0 < p := by rw [← hp]; exact Nat.pow_pos (by decide)
  have HC := Lib.hid hc2
  have HP := Lib.hid hp
  have HSH := Lib.hid (fun V : Nat => shr_cast V s p hp)
  have HUS := Lib.hid (show (limbs (val xs)).length = us.length by rw [hus])
  have EM := Lib.hid em
  rw [hp]
  have i1 : (d : Int) ≤ (us.length : Int) := by omega
  have i2 : ¬ (us.length : Int) ≤ (d : Int) := by omega
  have e6 : (n : Int).tmod 32 = (s : Int) := by rw [Int.tmod_eq_emod_of_nonneg (by omega)]; exact e2
  clear hv hus hd hsm EA evs hvl hc2 hp ha2 EM
  go_enter Try.func124, Try.ntmps124
  go_wp2_with fail
  refine (cut_c _ _ _ _ ha).mono ?_
  rintro e w' ⟨rfl, rfl⟩
  rw [HUS.out]
  go_wp2_with fail
  go_loopw [31] (fun i wr => ∃ (k : Nat) (zs : List Nat), k ≤ m ∧ i = .int .i64 k ∧ zs.length = m ∧ Lb zs ∧ Row wr w.heap.size zs ∧ Below w.heap.size w wr ∧ (∀ j, k ≤ j → zs[j]?.getD 0 = 0) ∧ val zs = val vs / 2 ^ s % Ba ^ k) (fun i _ => m - (intOf i).toNat)
  case atStart => exact ⟨0, zeros m, Nat.zero_le _, rfl, zeros_length _, zeros_lb _, Row.new _ _, (Below.refl _ _).alloc (Nat.le_refl _) _, fun j _ => zeros_get _ _, by simp [zeros_val, Nat.mod_one]⟩
  case round =>
    obtain ⟨k, zs, hk, rfl, hl, hz, hrow, hbel, h0, hv⟩ := hrel
    have HV := Lib.hid hv
    have H0 := Lib.hid h0
    have HZ := Lib.hid hl
    clear hv h0 hl hmk
    by_cases hkm : k < m
    · have hx := (hbel.cell (p := ⟨b1, o1 + d + k, none⟩) hb1).trans (HC.out k (by rw [HL.out]; exact hkm))
      have bx : vs[k]?.getD 0 < 4294967296 := hvs.lb.get k
      have bY : vs[k + 1]?.getD 0 < 4294967296 := hvs.lb.get (k + 1)
      have hstep := shr_step (xs := vs) (zs := zs) (i := k) (s := s) hvs.lb (by rw [HZ.out]; exact hkm) (by rw [HL.out]; exact hkm) H0.out (by omega) HV.out
      obtain ⟨x, ex⟩ : ∃ x, vs[k]?.getD 0 = x := ⟨_, rfl⟩
      obtain ⟨y, ey⟩ : ∃ y, vs[k + 1]?.getD 0 = y := ⟨_, rfl⟩
      rw [ex] at hx bx hstep
      rw [ey] at bY hstep
      have EY := Lib.hid ey
      have hs1 := hrow.cell (i := k) (by rw [HZ.out]; exact hkm)
      have hs2 := hrow.frozen k
      rw [H0.out k (Nat.le_refl _)] at hs1
      rw [HP.out] at hstep
      clear ex ey
      by_cases hk1 : k + 1 < m
      · have hy := (hbel.cell (p := ⟨b1, o1 + d + (k + 1), none⟩) hb1).trans (HC.out (k + 1) (by rw [HL.out]; exact hk1))
        rw [EY.out] at hy
        have hor := or_hi x y bx bY
        have hsh := HSH.out (x + 4294967296 * y)
        obtain ⟨V, eV⟩ : ∃ V, x + Ba * y = V := ⟨_, rfl⟩
        rw [show x + 4294967296 * y = V from eV] at hor hsh
        rw [eV] at hstep
        have HST := Lib.hid hstep
        have hr := hrow.put k (V / p % Ba) (z := (V : Int) / (p : Int) % 4294967296) (by rw [Ba_eq]; simp)
        clear eV hstep
        go_wp2
        go_roundw
        case rel => exact ⟨k + 1, zs.set k (V / p % Ba), by omega, by go_num, by rw [List.length_set]; exact HZ.out, hz.set _ _ (Nat.mod_lt _ Ba_pos), hr, hbel.setCell (Nat.le_refl _) _, zeros_step H0.out, by rw [HP.out]; exact HST.out⟩
        case measure => simp [intOf]; omega
      · have hy0 : y = 0 := by rw [← EY.out, List.getElem?_eq_none (by rw [HL.out]; omega)]; rfl
        rw [hy0, Nat.mul_zero, Nat.add_zero] at hstep
        have hsh := HSH.out x
        have HST := Lib.hid hstep
        have hk2 : ¬ (k : Int) + 1 < (m : Int) := by omega
        have hr := hrow.put k (x / p % Ba) (z := (x : Int) / (p : Int) % 4294967296) (by rw [Ba_eq]; simp)
        clear hy0 hstep EY bY
        go_wp2
        go_roundw
        case rel => exact ⟨k + 1, zs.set k (x / p % Ba), by omega, by go_num, by rw [List.length_set]; exact HZ.out, hz.set _ _ (Nat.mod_lt _ Ba_pos), hr, hbel.setCell (Nat.le_refl _) _, zeros_step H0.out, by rw [HP.out]; exact HST.out⟩
        case measure => simp [intOf]; omega
    · obtain rfl : k = m := by omega
      have hval : val zs = val vs / p := by
        rw [HV.out, HP.out]
        apply Nat.mod_eq_of_lt
        have h1 := val_lt hvs.lb
        rw [HL.out] at h1
        exact Nat.lt_of_le_of_lt (Nat.div_le_self _ _) h1
      have HVAL := Lib.hid hval
      clear hval
      go_wp2_with fail
      refine (cut_own hrow hz (Nat.le_refl _) HZ.out (by omega) HVAL.out hbel).mono ?_
      rintro e w' ⟨A', c', rfl, r3, r4⟩
      go_wp2
      go_ret2
      exact ⟨A', c', rfl, r3, r4⟩

/-- the shift to the right -/
theorem ShiftRight_c (A : Option Addr) (xs : List Nat) (c n : Nat) (w : World) (ha : Lim w A c xs) (hs : xs.length ≤ 70368744177664) (hn : n ≤ 9223372036854775807) :
    Calls Try.prog 124 #[.slice A xs.length c, .int .i64 (n : Int)] w (RetNatOk w (val xs / 2 ^ n)) := by
  rcases Nat.lt_or_ge (n / 32) (limbs (val xs)).length with h | h
  · exact ShiftRight_pos A xs c n w ha hs hn h
  · exact ShiftRight_zero A xs c n w ha hn h

/- Contracts of package natural: the next digit of the long division. -/

theorem wrap_low' (z : Int) (h1 : -4294967296 ≤ z) (h2 : z < 0) : IntKind.u64.wrap z % 4294967296 = z + 4294967296 := wrap_low z h1 h2

/-- just block g has changed -/
structure Only (g : Nat) (w w' : World) : Prop where
  bel : Below g w w'
  same : ∀ b, b ≠ g → w'.heap[b]? = w.heap[b]?
  size : w'.heap.size = w.heap.size
theorem Only.refl (g : Nat) (w : World) : Only g w w := ⟨Below.refl _ _, fun _ _ => rfl, rfl⟩
theorem Only.drewN {g : Nat} {w w' : World} (h : Only g w w') (n : Nat) : Only g w (w'.drewN n) := ⟨below_drewN h.bel n, h.same, h.size⟩
theorem Only.put {g : Nat} {w w' : World} (h : Only g w w') (i : Nat) (v : Value) : Only g w (w'.setCell ⟨g, i, none⟩ v) :=
  ⟨h.bel.setCell (Nat.le_refl _) _, fun b hb => (Below.heap_setCell w' ⟨g, i, none⟩ v b hb).trans (h.same b hb), by rw [← h.size]; simp [World.setCell]⟩
theorem Only.row {g b : Nat} {w w' : World} {zs : List Nat} (h : Only g w w') (hb : b ≠ g) (hr : Row w b zs) : Row w' b zs := (h.same b hb).trans hr

/-- what the next digit returns: the row has the digit's multiple of the divisor taken away -/
def RetDig (zs vs : List Nat) (g j : Nat) (w : World) (e : Ending) (w' : World) : Prop :=
  ∃ ys, e = .returned (.int .u32 ((val (zs.drop j) / val vs : Nat) : Int)) ∧ ys.length = zs.length ∧ Lb ys ∧ Row w' g ys ∧ val ys + Ba ^ j * (val (zs.drop j) / val vs * val vs) = val zs ∧ Only g w w'

set_option maxHeartbeats 4000000 in
set_option maxRecDepth 100000 in
theorem nextDigit_c (B : Option Addr) (zs vs : List Nat) (g j m cu c : Nat) (w : World) (h : Kn zs vs j m) (hrow : Row w g zs) (hb : Lim w B c vs) (hB : ∀ b o, B = some ⟨b, o, none⟩ → b < g) (hcu : m + 3 ≤ cu) (hlen : zs.length ≤ 70368744177665) (hcm : cu ≤ 9223372036854775807) :
    Calls Try.prog 123 #[.slice (some ⟨g, j, none⟩) (m + 3) cu, .slice B (m + 2) c] w (RetDig zs vs g j w) := by
  have hf := h.fit
  have hl2 := h.len
  obtain ⟨b, o, rfl, hbl, hc⟩ := hb.at_ (by omega)
  have hbg := hB b o rfl
  have u2 := hrow.cell (i := j + m + 2) (by omega)
  have u1 := hrow.cell (i := j + m + 1) (by omega)
  have u0 := hrow.cell (i := j + m) (by omega)
  have v1 := hc (m + 1) (by omega)
  have v2 := hc m (by omega)
  have b2 : zs[j + m + 2]?.getD 0 < 4294967296 := h.lbz.get _
  have b1 : zs[j + m + 1]?.getD 0 < 4294967296 := h.lbz.get _
  have b0 : zs[j + m]?.getD 0 < 4294967296 := h.lbz.get _
  have d1 := h.v1
  have d2 : vs[m]?.getD 0 < 4294967296 := h.lbv.get _
  obtain ⟨U2, e2⟩ : ∃ x, zs[j + m + 2]?.getD 0 = x := ⟨_, rfl⟩
  obtain ⟨U1, e1⟩ : ∃ x, zs[j + m + 1]?.getD 0 = x := ⟨_, rfl⟩
  obtain ⟨U0, e0⟩ : ∃ x, zs[j + m]?.getD 0 = x := ⟨_, rfl⟩
  obtain ⟨V1, f1⟩ : ∃ x, vs[m + 1]?.getD 0 = x := ⟨_, rfl⟩
  obtain ⟨V2, f2⟩ : ∃ x, vs[m]?.getD 0 = x := ⟨_, rfl⟩
  rw [e2] at u2 b2
  rw [e1] at u1 b1
  rw [e0] at u0 b0
  rw [f1] at v1 d1
  rw [f2] at v2 d2
  have hor := or_hi' U1 U2 b1 b2
  have hst := Dg.start h (t := U2 * Ba + U1) (by rw [e2, e1])
  rw [f1] at hst
  obtain ⟨T, eT⟩ : ∃ T, U2 * Ba + U1 = T := ⟨_, rfl⟩
  rw [eT] at hst
  rw [show U1 + 4294967296 * U2 = T by rw [← eT, Ba_eq, Nat.mul_comm, Nat.add_comm]] at hor
  have hTb : T < 18446744073709551616 := by rw [← eT, Ba_eq]; omega
  have q1 : (T : Int).tdiv (V1 : Int) = ((T / V1 : Nat) : Int) := by rw [Int.tdiv_eq_ediv_of_nonneg (by omega)]; rfl
  have q2 : (T : Int).tmod (V1 : Int) = ((T % V1 : Nat) : Int) := by rw [Int.tmod_eq_emod_of_nonneg (by omega)]; rfl
  have hrl := Nat.mod_lt T (show 0 < V1 by omega)
  obtain ⟨D0, eD⟩ : ∃ x, T / V1 = x := ⟨_, rfl⟩
  obtain ⟨R0, eR⟩ : ∃ x, T % V1 = x := ⟨_, rfl⟩
  rw [eD] at q1 hst
  rw [eR] at q2 hst hrl
  have hne : ((V1 : Int) == 0) = false := by rw [beq_eq_false_iff_ne]; omega
  have u2' : w.cell? ⟨g, j + (m + 2), none⟩ = some (.int .u32 (U2 : Int)) := u2
  have u1' : w.cell? ⟨g, j + (m + 1), none⟩ = some (.int .u32 (U1 : Int)) := u1
  have E2 := Lib.hid e2
  have E1 := Lib.hid e1
  have E0 := Lib.hid e0
  have F1 := Lib.hid f1
  have F2 := Lib.hid f2
  have HC := Lib.hid hc
  have HL2 := Lib.hid hl2
  have HT := Lib.hid eT
  have hD0 : D0 ≤ 4294967297 := by have := hst.le; rw [Ba_eq] at this; exact this
  have hwD : IntKind.u64.wrap (D0 : Int) = (D0 : Int) := by rw [IntKind.wrap_u64]; omega
  obtain ⟨Q, eQ⟩ : ∃ Q, val (zs.drop j) / val vs = Q := ⟨_, rfl⟩
  have EQ := Lib.hid eQ
  have HST := Lib.hid hst
  clear e2 e1 e0 f1 f2 eT eD eR hc hl2 u2 u1 eQ hst
  go_enter Try.func123, Try.ntmps123
  go_wp2_with fail
  go_quiet (fail)
  go_wp2_with fail
  go_quiet (fail)
  clear hor u2' u1' q1 q2 hne hTb
  go_upto_block 0 with fail
  go_cut [7] (fun t wx => ∃ (D n : Nat), t = .int .u64 D ∧ D < Ba ∧ (D = Q ∨ D = Q + 1) ∧ wx = w.drewN n)
  case first =>
    go_wp2_with fail
    go_loopw [7, 8] (fun t r wr => ∃ (D R n : Nat), t = .int .u64 D ∧ r = .int .u64 R ∧ R < 4294967296 ∧ Hid (Dg zs vs j m D R) ∧ wr = w.drewN n) (fun t _ _ => (intOf t).toNat)
    case atStart => exact ⟨D0, R0, _, rfl, rfl, by omega, HST, World.drewN_drewN _ _ _⟩
    case round =>
      obtain ⟨D, R, n, rfl, rfl, hR, hDg, rfl⟩ := hrel
      have hDl : D ≤ 4294967297 := by have := hDg.out.le; rw [Ba_eq] at this; exact this
      by_cases hbig : 4294967296 ≤ D
      · obtain ⟨hd0, hdn⟩ := Dg.down h hDg.out (.inl hbig)
        rw [F1.out] at hdn
        have HDN := Lib.hid hdn
        have t1 : ((D : Int) / 4294967296 != 0) = true := by rw [bne_iff_ne]; omega
        clear hdn
        go_wp2_with fail
        go_quiet (fail)
        by_cases hbr : 4294967296 ≤ R + V1
        · have hfd := Dg.found h HDN.out (.inr hbr)
          rw [EQ.out] at hfd
          have HFD := Lib.hid hfd
          have t2 : (((R : Int) + V1) / 4294967296 != 0) = true := by rw [bne_iff_ne]; omega
          clear hfd
          go_wp2
          go_meet
          exact ⟨D - 1, _, by congr 1; omega, HFD.out.1, HFD.out.2, rfl⟩
        · have t2 : (((R : Int) + V1) / 4294967296 != 0) = false := by rw [bne_eq_false_iff_eq]; omega
          go_wp2
          go_roundw
          case rel => exact ⟨D - 1, R + V1, _, by congr 1; omega, by go_num, by omega, HDN, rfl⟩
          case measure => simp [intOf]; omega
      · have t1 : ((D : Int) / 4294967296 != 0) = false := by rw [bne_eq_false_iff_eq]; omega
        have hpe : (D : Int) * (V2 : Int) = ((D * V2 : Nat) : Int) := (Int.natCast_mul D V2).symm
        have hpb := Nat.mul_le_mul (Nat.le_pred_of_lt (show D < 4294967296 by omega)) (Nat.le_pred_of_lt d2)
        have hor := or_hi' U0 R b0 hR
        have hdown := @Dg.down zs vs j m h D R hDg.out
        have hfound := @Dg.found zs vs j m h D R hDg.out
        rw [F1.out, F2.out, E0.out] at hdown
        rw [F2.out, E0.out, EQ.out] at hfound
        obtain ⟨M, eM⟩ : ∃ M, D * V2 = M := ⟨_, rfl⟩
        obtain ⟨N, eN⟩ : ∃ N, U0 + 4294967296 * R = N := ⟨_, rfl⟩
        have eN' : R * Ba + U0 = N := by rw [← eN, Ba_eq, Nat.mul_comm, Nat.add_comm]
        rw [eM] at hpe hpb hdown hfound
        rw [eN] at hor
        rw [eN'] at hdown hfound
        have hpb' : M ≤ 18446744065119617025 := hpb
        have w1 : IntKind.u64.wrap ((D : Int) * (V2 : Int)) = (M : Int) := by rw [hpe, IntKind.wrap_u64]; omega
        have w2 : IntKind.u64.wrap ((R : Int) * 4294967296) = (R : Int) * 4294967296 := by rw [IntKind.wrap_u64]; omega
        have HDOWN := Lib.hid hdown
        have HFOUND := Lib.hid hfound
        clear eM eN eN' hpb hpe hdown hfound
        by_cases htest : N < M
        · obtain ⟨hd0, hdn⟩ := HDOWN.out (.inr htest)
          have HDN := Lib.hid hdn
          clear hdn
          go_wp2_with fail
          go_quiet (fail)
          by_cases hbr : 4294967296 ≤ R + V1
          · have hfd := Dg.found h HDN.out (.inr hbr)
            rw [EQ.out] at hfd
            have HFD := Lib.hid hfd
            have t2 : (((R : Int) + V1) / 4294967296 != 0) = true := by rw [bne_iff_ne]; omega
            clear hfd
            go_wp2
            go_meet
            exact ⟨D - 1, _, by congr 1; omega, HFD.out.1, HFD.out.2, rfl⟩
          · have t2 : (((R : Int) + V1) / 4294967296 != 0) = false := by rw [bne_eq_false_iff_eq]; omega
            go_wp2
            go_roundw
            case rel => exact ⟨D - 1, R + V1, _, by congr 1; omega, by go_num, by omega, HDN, rfl⟩
            case measure => simp [intOf]; omega
        · have hfd := HFOUND.out (.inl ⟨by rw [Ba_eq]; omega, by omega⟩)
          have HFD := Lib.hid hfd
          clear hfd
          go_wp2_with fail
          go_quiet (fail)
          go_wp2
          go_meet
          exact ⟨D, _, rfl, HFD.out.1, HFD.out.2, World.drewN_drewN _ _ _⟩
  case rest =>
    obtain ⟨D, n, rfl, hD, hDQ, rfl⟩ := hcut
    rw [Ba_eq] at hD
    have HDQ := Lib.hid hDQ
    clear hDQ u0 v1 v2 b0 b1 hD0 hwD hrl HST d2 d1
    have HBG := Lib.hid hbg
    clear hB hbg
    go_wp2_with fail
    go_loopw [9, 86] (fun t i wr => ∃ (k q : Nat) (ys : List Nat), k ≤ m + 2 ∧ i = .int .i64 k ∧ t = .int .u64 q ∧ q < 4294967296 ∧ ys.length = zs.length ∧ Lb ys ∧ Row wr g ys ∧ Only g w wr ∧ (∀ l, j + k ≤ l → ys[l]?.getD 0 = zs[l]?.getD 0) ∧ val ys + Ba ^ j * (D * val (vs.take k)) = val zs + Ba ^ (j + k) * q) (fun _ i _ => m + 2 - (intOf i).toNat)
    case atStart => exact ⟨0, 0, zs, Nat.zero_le _, rfl, rfl, by omega, rfl, h.lbz, hrow, (Only.refl g w).drewN n, fun _ _ => rfl, by simp [val]⟩
    case round =>
      obtain ⟨k, q, ys, hk, rfl, rfl, hq, hl, hz, hrow2, hon, hsame, hv⟩ := hrel
      have HV := Lib.hid hv
      have HS := Lib.hid hsame
      have HL := Lib.hid hl
      clear hv hsame hl hrow
      by_cases hlt : k < m + 2
      · have hx := (hon.bel.cell (p := ⟨b, o + k, none⟩) HBG.out).trans (HC.out k (by rw [HL2.out]; omega))
        have bx : vs[k]?.getD 0 < 4294967296 := h.lbv.get k
        have hyc := hrow2.cell (i := j + k) (by rw [HL.out]; omega)
        have hyf := hrow2.frozen (j + k)
        have bY : ys[j + k]?.getD 0 < 4294967296 := hz.get (j + k)
        have hstep := fun z c' => @ms_step ys vs j k q D z c' (val zs) (by rw [HL.out]; omega) HV.out
        obtain ⟨x, ex⟩ : ∃ x, vs[k]?.getD 0 = x := ⟨_, rfl⟩
        obtain ⟨y, ey⟩ : ∃ y, ys[j + k]?.getD 0 = y := ⟨_, rfl⟩
        rw [ex] at hx bx
        rw [ey] at hyc bY
        simp only [ex, ey] at hstep
        obtain ⟨c1, c2, c3⟩ := ms_carry (d := D) (x := x) (c := q) (y := y) hD bx hq bY
        have hpe : (D : Int) * (x : Int) = ((D * x : Nat) : Int) := (Int.natCast_mul D x).symm
        obtain ⟨M, eM⟩ : ∃ M, D * x = M := ⟨_, rfl⟩
        rw [eM] at hpe c1 c2 c3
        simp only [eM] at hstep
        have hpq : (M : Int) + (q : Int) = ((M + q : Nat) : Int) := by omega
        obtain ⟨P, eP⟩ : ∃ P, M + q = P := ⟨_, rfl⟩
        rw [eP] at hpq c1 c2 c3
        simp only [eP] at hstep
        have hBB : Ba * Ba = 18446744073709551616 := by decide
        rw [hBB] at c1
        rw [Ba_eq] at c2 c3
        have hM : M ≤ 18446744073709551615 := by omega
        have hP : P ≤ 18446744073709551615 := by omega
        have hmd : P = P % 4294967296 + 4294967296 * (P / 4294967296) := (Nat.mod_add_div P 4294967296).symm
        have g1 : (P : Int) % 4294967296 = ((P % 4294967296 : Nat) : Int) := by omega
        have g2 : (P : Int) / 4294967296 = ((P / 4294967296 : Nat) : Int) := by omega
        have hLo : P % 4294967296 < 4294967296 := Nat.mod_lt _ (by decide)
        obtain ⟨L, eL⟩ : ∃ L, P % 4294967296 = L := ⟨_, rfl⟩
        obtain ⟨H, eH⟩ : ∃ H, P / 4294967296 = H := ⟨_, rfl⟩
        rw [eL] at g1 c3 hLo hmd
        rw [eH] at g2 c2 c3 hmd
        have HMD := Lib.hid hmd
        have HST := Lib.hid hstep
        have C3 := Lib.hid c3
        clear ex ey eM eP eL eH hmd hstep hBB c3 c1
        by_cases hyl : L ≤ y
        · have hr := hrow2.put (j + k) (y - L) (z := (y : Int) - L) (by omega)
          have hst2 := HST.out (y - L) H (by rw [Ba_eq]; have := HMD.out; omega)
          have HST2 := Lib.hid hst2
          clear hst2
          go_wp2
          go_roundw
          case rel => exact ⟨k + 1, H, ys.set (j + k) (y - L), by omega, by go_num, by congr 1; omega, c2, by rw [List.length_set]; exact HL.out, hz.set _ _ (by rw [Ba_eq]; omega), hr, hon.put _ _, fun l hl => by rw [get_set_ne _ (by omega)]; exact HS.out l (by omega), HST2.out⟩
          case measure => simp [intOf]; omega
        · have hH : H + 1 < 4294967296 := C3.out (by omega)
          have hr := hrow2.put (j + k) (y + 4294967296 - L) (z := IntKind.u64.wrap ((y : Int) - L) % 4294967296) (by rw [wrap_low _ (by omega) (by omega)]; omega)
          have hst2 := HST.out (y + 4294967296 - L) (H + 1) (by rw [Ba_eq]; have := HMD.out; omega)
          have HST2 := Lib.hid hst2
          have hws := wrap_sign ((y : Int) - L) (by omega) (by omega)
          clear hst2
          go_wp2
          go_roundw
          case rel => exact ⟨k + 1, H + 1, ys.set (j + k) (y + 4294967296 - L), by omega, by go_num, by go_num, hH, by rw [List.length_set]; exact HL.out, hz.set _ _ (by rw [Ba_eq]; omega), hr, hon.put _ _, fun l hl => by rw [get_set_ne _ (by omega)]; exact HS.out l (by omega), HST2.out⟩
          case measure => simp [intOf]; omega
      · obtain rfl : k = m + 2 := by omega
        have hV := HV.out
        rw [List.take_of_length_le (by rw [HL2.out]; exact Nat.le_refl _)] at hV
        have hyc := hrow2.cell (i := j + (m + 2)) (by rw [HL.out]; omega)
        have hyf := hrow2.frozen (j + (m + 2))
        have eU : ys[j + (m + 2)]?.getD 0 = U2 := by rw [HS.out _ (Nat.le_refl _)]; exact E2.out
        rw [eU] at hyc
        have EU := Lib.hid eU
        have HV2 := Lib.hid hV
        clear hV eU
        by_cases hqu : q ≤ U2
        · have hr := hrow2.put (j + (m + 2)) (U2 - q) (z := (U2 : Int) - q) (by omega)
          have htop := ms_top (k := j + (m + 2)) (z := U2 - q) (by rw [HL.out]; omega) EU.out HV2.out (by omega)
          have hdone := h.done (by rw [EQ.out]; exact HDQ.out) htop
          have HT2 := Lib.hid htop
          have HDN := Lib.hid hdone
          clear htop hdone
          go_wp2
          go_ret
          refine ⟨ys.set (j + (m + 2)) (U2 - q), ?_, by rw [List.length_set]; exact HL.out, hz.set _ _ (by rw [Ba_eq]; omega), hr, by rw [← HDN.out]; exact HT2.out, hon.put _ _⟩
          rw [← HDN.out]
          rfl
        · have hr := hrow2.put (j + (m + 2)) (U2 + 4294967296 - q) (z := IntKind.u64.wrap ((U2 : Int) - q) % 4294967296) (by rw [wrap_low _ (by omega) (by omega)]; omega)
          have hws := wrap_sign ((U2 : Int) - q) (by omega) (by omega)
          have htop := ms_top' (k := j + (m + 2)) (z := U2 + 4294967296 - q) (by rw [HL.out]; omega) EU.out HV2.out (by rw [Ba_eq]; omega)
          have hlb2 := hz.set (j + (m + 2)) (U2 + 4294967296 - q) (by rw [Ba_eq]; omega)
          have hzero : ∀ l, j + m + 2 + 1 ≤ l → (ys.set (j + (m + 2)) (U2 + 4294967296 - q))[l]?.getD 0 = 0 := fun l hl => by
            rw [get_set_ne _ (by omega), HS.out l (by omega)]; exact h.zero l (by omega)
          have hvl := val_lt_of_zero hlb2 hzero
          have hbor := h.borrowed (by rw [EQ.out]; exact HDQ.out) hvl htop
          have hlen2 : (ys.set (j + (m + 2)) (U2 + 4294967296 - q)).length = zs.length := by rw [List.length_set]; exact HL.out
          have hset : (ys.set (j + (m + 2)) (U2 + 4294967296 - q))[j + (m + 2)]?.getD 0 = U2 + 4294967296 - q := get_set_eq _ (by rw [HL.out]; omega)
          have hon2 := hon.put (j + (m + 2)) (.int .u32 (IntKind.u64.wrap ((U2 : Int) - q) % 4294967296))
          obtain ⟨xs, exs⟩ : ∃ xs, ys.set (j + (m + 2)) (U2 + 4294967296 - q) = xs := ⟨_, rfl⟩
          obtain ⟨Z, eZ⟩ : ∃ Z, U2 + 4294967296 - q = Z := ⟨_, rfl⟩
          have hZ : Z < 4294967296 := by omega
          rw [exs] at hr htop hlb2 hzero hlen2 hset
          rw [eZ] at hset
          have HTOP := Lib.hid htop
          have HZERO := Lib.hid hzero
          have HLEN := Lib.hid hlen2
          have HSET := Lib.hid hset
          have HBOR := Lib.hid hbor
          clear htop hzero hlen2 hset hbor exs eZ hvl HV HV2 HS EU
          have hD1 : 1 ≤ D := by rw [HBOR.out]; exact Nat.le_add_left _ _
          obtain ⟨wo, hwo⟩ : ∃ wo, wr.setCell ⟨g, j + (m + 2), none⟩ (.int .u32 (IntKind.u64.wrap ((U2 : Int) - q) % 4294967296)) = wo := ⟨_, rfl⟩
          rw [hwo] at hr hon2
          have HWO := Lib.hid hwo
          clear hwo
          go_wp2_with fail
          rw [HWO.out]
          clear HWO hyc hyf hrow2 hon hws
          go_loopw [9, 136] (fun t i wi => ∃ (k q : Nat) (ps : List Nat), k ≤ m + 2 ∧ i = .int .i64 k ∧ t = .int .u64 q ∧ q ≤ 1 ∧ ps.length = zs.length ∧ Lb ps ∧ Row wi g ps ∧ Only g w wi ∧ (∀ l, j + k ≤ l → ps[l]?.getD 0 = xs[l]?.getD 0) ∧ val ps + Ba ^ (j + k) * q = val xs + Ba ^ j * val (vs.take k)) (fun _ i _ => m + 2 - (intOf i).toNat)
          case atStart => exact ⟨0, 0, xs, Nat.zero_le _, rfl, rfl, by omega, HLEN.out, hlb2, hr, hon2, fun _ _ => rfl, by simp [val]⟩
          case round =>
            clear hr hon2
            obtain ⟨k, f, ps, hk2, rfl, rfl, hf2, hl3, hz3, hrow3, hon3, hsame3, hv3⟩ := hrel
            have HV3 := Lib.hid hv3
            have HS3 := Lib.hid hsame3
            have HL3 := Lib.hid hl3
            clear hv3 hsame3 hl3
            by_cases hlt3 : k < m + 2
            · have hx := (hon3.bel.cell (p := ⟨b, o + k, none⟩) HBG.out).trans (HC.out k (by rw [HL2.out]; omega))
              have bx : vs[k]?.getD 0 < 4294967296 := h.lbv.get k
              have hyc := hrow3.cell (i := j + k) (by rw [HL3.out]; omega)
              have hyf := hrow3.frozen (j + k)
              have bY : ps[j + k]?.getD 0 < 4294967296 := hz3.get (j + k)
              have hstep := ab_step (zs := ps) (vs := vs) (j := j) (i := k) (c := f) (T := val xs) (by rw [HL3.out]; omega) HV3.out
              obtain ⟨x, ex⟩ : ∃ x, vs[k]?.getD 0 = x := ⟨_, rfl⟩
              obtain ⟨y, ey⟩ : ∃ y, ps[j + k]?.getD 0 = y := ⟨_, rfl⟩
              rw [ex] at hx bx hstep
              rw [ey] at hyc bY hstep
              have HST := Lib.hid hstep
              have hr := hrow3.put (j + k) ((f + (y + x)) % Ba) (z := ((f : Int) + (y + x)) % 4294967296) (by simp only [Ba_eq]; omega)
              clear ex ey hstep
              go_wp2
              go_roundw
              case rel => exact ⟨k + 1, (f + (y + x)) / Ba, ps.set (j + k) ((f + (y + x)) % Ba), by omega, by go_num, by simp only [Ba_eq]; go_num, by simp only [Ba_eq]; omega, by rw [List.length_set]; exact HL3.out, hz3.set _ _ (Nat.mod_lt _ Ba_pos), hr, hon3.put _ _, fun l hl => by rw [get_set_ne _ (by omega)]; exact HS3.out l (by omega), HST.out⟩
              case measure => simp [intOf]; omega
            · obtain rfl : k = m + 2 := by omega
              have hyc := hrow3.cell (i := j + (m + 2)) (by rw [HL3.out]; omega)
              have hyf := hrow3.frozen (j + (m + 2))
              have ep : ps[j + (m + 2)]?.getD 0 = Z := by rw [HS3.out _ (Nat.le_refl _)]; exact HSET.out
              rw [ep] at hyc
              have hV := HV3.out
              rw [List.take_of_length_le (by rw [HL2.out]; exact Nat.le_refl _)] at hV
              have htop := ab_top (k := j + (m + 2)) (by rw [HL3.out]; omega) ep hV
              have hlb4 := hz3.set (j + (m + 2)) ((Z + f) % Ba) (Nat.mod_lt _ Ba_pos)
              have hlt4 := val_lt_of_zero (m := j + m + 2 + 1) hlb4 (fun l hl => by rw [get_set_ne _ (by omega), HS3.out l (by omega)]; exact HZERO.out l hl)
              have hQ : D = val (zs.drop j) / val vs + 1 := HBOR.out
              have hback := h.back (q := val (zs.drop j) / val vs) (ys := xs) (xs := ps.set (j + (m + 2)) ((Z + f) % Ba)) (c := (Z + f) / Ba) rfl (by rw [← hQ]; exact HTOP.out) htop hlt4 (val_lt_of_zero h.lbz h.zero)
              have HB := Lib.hid hback
              have hr := hrow3.put (j + (m + 2)) ((Z + f) % Ba) (z := ((Z : Int) + f) % 4294967296) (by simp only [Ba_eq]; omega)
              have HQ := Lib.hid (show val (zs.drop j) / val vs = D - 1 by omega)
              clear ep hV htop hlt4 hback hQ
              go_wp2
              go_ret
              refine ⟨ps.set (j + (m + 2)) ((Z + f) % Ba), ?_, by rw [List.length_set]; exact HL3.out, hlb4, hr, HB.out, hon3.put _ _⟩
              rw [HQ.out]
              exact congrArg (fun z => Ending.returned (.int .u32 z)) (by omega)

/- Contracts of package natural: the long division, the division in full. -/

/-- the shift that brings the top bit of the top limb to its place -/
theorem norm_top {x s : Nat} (hx : x < Ba) (h0 : x ≠ 0) (hs : s = 32 - nb x) : s < 32 ∧ Ba ≤ 2 * (x * 2 ^ s) ∧ x * 2 ^ s < Ba := by
  have h1 := nb_lt x
  have h2 := nb_ge h0
  have h3 : nb x ≤ 32 := nb_le hx
  have h4 : 1 ≤ nb x := by
    rcases Nat.eq_zero_or_pos (nb x) with h | h
    · exact absurd (nb_eq_zero.1 h) h0
    · exact h
  have e : Ba = 2 ^ nb x * 2 ^ s := by rw [← Nat.pow_add, hs, show nb x + (32 - nb x) = 32 by omega]; rfl
  have e2 : 2 ^ nb x = 2 * 2 ^ (nb x - 1) := by rw [Nat.mul_comm, ← Nat.pow_succ, show (nb x - 1).succ = nb x by omega]
  refine ⟨by omega, ?_, ?_⟩
  · rw [e, e2, Nat.mul_assoc]
    exact Nat.mul_le_mul_left _ (Nat.mul_le_mul_right _ h2)
  · rw [e]
    exact Nat.mul_lt_mul_of_pos_right h1 (Nat.pow_pos (by decide))
/-- the normed divisor: its own length, its top limb -/
theorem norm_row {bs ws : List Nat} {m s : Nat} (hb : Lb bs) (hw : Lb ws) (hl : bs.length = m + 2) (hwl : ws.length = m + 3) (hv : val ws = val bs * 2 ^ s) (h0 : bs[m + 1]?.getD 0 ≠ 0) (hs : s = 32 - nb (bs[m + 1]?.getD 0)) :
    val (ws.take (m + 2)) = val bs * 2 ^ s ∧ Ba ≤ 2 * (ws.take (m + 2))[m + 1]?.getD 0 := by
  obtain ⟨h32, hn1, hn2⟩ := norm_top (hb.get (m + 1)) h0 hs
  have hsp := val_split (xs := bs) (i := m + 1) (by omega)
  rw [List.drop_of_length_le (show bs.length ≤ m + 1 + 1 by omega)] at hsp
  simp only [val, Nat.mul_zero, Nat.add_zero] at hsp
  have hlow := val_take_lt hb (m + 1)
  have hxb := hb.get (m + 1)
  have hlt : val ws < Ba ^ (m + 2) := by
    rw [hv, hsp]
    generalize bs[m + 1]?.getD 0 = x at *
    have h1 : (val (bs.take (m + 1)) + Ba ^ (m + 1) * x) * 2 ^ s < Ba ^ (m + 1) * (x + 1) * 2 ^ s := by
      apply Nat.mul_lt_mul_of_pos_right _ (Nat.pow_pos (by decide))
      rw [Nat.mul_add, Nat.mul_one]; omega
    have h2 : (x + 1) * 2 ^ s ≤ Ba := by
      have h3 := nb_lt x
      have h4 : nb x ≤ 32 := nb_le hxb
      have e : Ba = 2 ^ nb x * 2 ^ s := by rw [← Nat.pow_add, hs, show nb x + (32 - nb x) = 32 by omega]; rfl
      rw [e]; exact Nat.mul_le_mul_right _ h3
    have h3 : Ba ^ (m + 1) * (x + 1) * 2 ^ s ≤ Ba ^ (m + 1) * Ba := by rw [Nat.mul_assoc]; exact Nat.mul_le_mul_left _ h2
    rw [Nat.pow_succ Ba (m + 1)]
    omega
  have hz := zero_of_val hlt
  have htk := val_take_of_zero hz
  refine ⟨by rw [htk, hv], ?_⟩
  rw [List.getElem?_take_of_lt (by omega)]
  have hsw := val_split (xs := ws) (i := m + 1) (by omega)
  have hd : val (ws.drop (m + 1 + 1)) = 0 := by
    have e := val_take_of_zero (zs := ws.drop (m + 1 + 1)) (m := 0) (fun k _ => by rw [List.getElem?_drop]; exact hz _ (by omega))
    rw [← e]; rfl
  rw [hd] at hsw
  simp only [Nat.mul_zero, Nat.add_zero] at hsw
  have hwlow := val_take_lt hw (m + 1)
  generalize bs[m + 1]?.getD 0 = x at *
  generalize ws[m + 1]?.getD 0 = y at *
  rcases Nat.lt_or_ge y (x * 2 ^ s) with h | h
  · exfalso
    have h5 : Ba ^ (m + 1) * (y + 1) ≤ Ba ^ (m + 1) * (x * 2 ^ s) := Nat.mul_le_mul_left _ h
    rw [Nat.mul_add, Nat.mul_one] at h5
    have h6 : Ba ^ (m + 1) * (x * 2 ^ s) ≤ val bs * 2 ^ s := by rw [hsp, Nat.add_mul, ← Nat.mul_assoc]; omega
    omega
  · omega

/-- what the loop of the long division keeps, before digit j - 1 -/
structure Lg (A V : Nat) (zs qs : List Nat) (j : Nat) : Prop where
  eq : A = val zs + V * val qs
  lt : val zs < V * Ba ^ j
  low : ∀ k, k < j → qs[k]?.getD 0 = 0
theorem Lg.start {A V d : Nat} {zs qs : List Nat} (h : val zs = A) (h0 : ∀ k : Nat, qs[k]?.getD 0 = 0) (hq : val qs = 0) (hlt : A < V * Ba ^ d) : Lg A V zs qs d :=
  ⟨by rw [h, hq]; simp, by rw [h]; exact hlt, fun k _ => h0 k⟩
theorem Lg.step {A V Q j : Nat} {zs ys qs : List Nat} (h : Lg A V zs qs (j + 1)) (hj : j < qs.length) (hy : val ys + Ba ^ j * (Q * V) = val zs) (hl : val ys < V * Ba ^ j) : Lg A V ys (qs.set j Q) j := by
  refine ⟨?_, hl, fun k hk => by rw [get_set_ne _ (by omega)]; exact h.low k (by omega)⟩
  have e := val_set Q hj
  rw [h.low j (by omega), Nat.mul_zero, Nat.add_zero] at e
  rw [h.eq, ← hy, e]
  grind
theorem Lg.finish {A V : Nat} {zs qs : List Nat} (h : Lg A V zs qs 0) : val qs = A / V ∧ val zs = A % V := by
  have h1 := h.lt
  have h2 := h.eq
  simp at h1
  have hV : 0 < V := by
    rcases Nat.eq_zero_or_pos V with h3 | h3
    · subst h3; simp at h1
    · exact h3
  have h2 := (Nat.div_mod_unique (a := A) (c := val zs) (d := val qs) hV).2 ⟨by rw [h.eq], h1⟩
  exact ⟨h2.1.symm, h2.2.symm⟩
theorem lg_size {us : List Nat} {m s : Nat} (ha : Lb us) (hs : s < 32) (hm : m + 2 ≤ us.length) {V : Nat} (hV : Ba ^ (m + 2) ≤ 2 * V) : val us * 2 ^ s < V * Ba ^ (us.length + 1 - (m + 2)) := by
  have h1 := val_lt ha
  have h2 : 2 ^ s * 2 ≤ Ba := by
    have : 2 ^ (s + 1) ≤ 2 ^ 32 := Nat.pow_le_pow_right (by decide) (by omega)
    rw [Nat.pow_succ] at this
    exact this
  have h3 : val us * 2 ^ s * 2 < Ba ^ (us.length + 1) := by
    rw [Nat.mul_assoc, Nat.pow_succ]
    exact Nat.mul_lt_mul_of_lt_of_le h1 h2 Ba_pos
  have h4 : Ba ^ (us.length + 1) = Ba ^ (m + 2) * Ba ^ (us.length + 1 - (m + 2)) := by rw [← Nat.pow_add]; congr 1; omega
  have h5 : Ba ^ (m + 2) * Ba ^ (us.length + 1 - (m + 2)) ≤ 2 * V * Ba ^ (us.length + 1 - (m + 2)) := Nat.mul_le_mul_right _ hV
  rw [Nat.mul_assoc] at h5
  omega
theorem top_half {vs : List Nat} {m : Nat} (hl : vs.length = m + 2) (h : Ba ≤ 2 * vs[m + 1]?.getD 0) : Ba ^ (m + 2) ≤ 2 * val vs := by
  have hs := val_split (xs := vs) (i := m + 1) (by omega)
  rw [Nat.pow_succ, hs]
  have h1 : Ba ^ (m + 1) * Ba ≤ Ba ^ (m + 1) * (2 * vs[m + 1]?.getD 0) := Nat.mul_le_mul_left _ h
  have h2 : Ba ^ (m + 1) * vs[m + 1]?.getD 0 ≤ Ba ^ (m + 1) * (vs[m + 1]?.getD 0 + Ba * val (vs.drop (m + 1 + 1))) := Nat.mul_le_mul_left _ (Nat.le_add_right _ _)
  have e : Ba ^ (m + 1) * (2 * vs[m + 1]?.getD 0) = 2 * (Ba ^ (m + 1) * vs[m + 1]?.getD 0) := by grind
  omega

theorem shifted_k (A : Option Addr) (us : List Nat) (c s n : Nat) (w : World) (ha : Lim w A c us) (hn : us.length = n) (hs : n < 70368744177664) (h32 : s < 32) :
    Calls Try.prog 122 #[.slice A n c, .int .i64 (s : Int)] w (RetRow w (n + 1) (val us * 2 ^ s)) := by
  subst hn; exact shifted_c A us c s w ha hs h32
theorem ShiftRight_k (A : Option Addr) (xs : List Nat) (c n l : Nat) (w : World) (ha : Lim w A c xs) (hl : xs.length = l) (hs : l ≤ 70368744177664) (hn : n ≤ 9223372036854775807) :
    Calls Try.prog 124 #[.slice A l c, .int .i64 (n : Int)] w (RetNatOk w (val xs / 2 ^ n)) := by
  subst hl; exact ShiftRight_c A xs c n w ha hs hn
theorem cut_k (A : Option Addr) (xs : List Nat) (c k n : Nat) (w : World) (h : Lim w A c xs) (hk : xs.length = k) (hv : val xs = n) :
    Calls Try.prog 97 #[.slice A k c] w fun e w' => e = .returned (.slice A (limbs n).length c) ∧ w = w' := by
  subst hk hv; exact cut_c A xs c w h
theorem Row.lim {w : World} {g : Nat} {zs : List Nat} (h : Row w g zs) (hz : Lb zs) (hm : zs.length ≤ 9223372036854775807) : Lim w (some ⟨g, 0, none⟩) zs.length zs := (h.own hz (Nat.zero_le _) hm).lim

set_option maxHeartbeats 4000000 in
set_option maxRecDepth 100000 in
theorem divideLong_c (A B : Option Addr) (us bs : List Nat) (m c d : Nat) (w : World) (ha : Lim w A c us) (hb : Lim w B d bs) (hl : bs.length = m + 2) (hle : m + 2 ≤ us.length) (hs : us.length < 70368744177664) (h0 : bs[m + 1]?.getD 0 ≠ 0) :
    Calls Try.prog 113 #[.slice A us.length c, .slice B (m + 2) d] w (RetTwo w (val us / val bs) (val us % val bs)) := by
  obtain ⟨b, o, rfl, hbl, hc⟩ := hb.at_ (by omega)
  have hx := hc (m + 1) (by omega)
  have bx : bs[m + 1]?.getD 0 < 4294967296 := hb.lb.get (m + 1)
  obtain ⟨x, ex⟩ : ∃ x, bs[m + 1]?.getD 0 = x := ⟨_, rfl⟩
  obtain ⟨s, es⟩ : ∃ s, 32 - nb x = s := ⟨_, rfl⟩
  rw [ex] at hx bx
  have hnt := norm_top (x := x) (s := s) bx (by rw [← ex]; exact h0) es.symm
  have hnr := fun ws h1 h2 h3 => @norm_row bs ws m s hb.lb h1 hl h2 h3 h0 (by rw [ex]; exact es.symm)
  obtain ⟨h32, _, _⟩ := hnt
  obtain ⟨dg, hdg⟩ : ∃ dg, us.length + 1 - (m + 2) = dg := ⟨_, rfl⟩
  have hdg' : (us.length : Int) + 1 - ((m : Int) + 2) = (dg : Int) := by omega
  have hsum : us.length = m + 1 + dg := by omega
  have hmk := mk_run (↑dg) dg rfl (by omega)
  have HNR := Lib.hid hnr
  have HL := Lib.hid hl
  have HS := Lib.hid hsum
  have ES := Lib.hid es
  have HDG := Lib.hid hdg
  have hdg1 : 1 ≤ dg := by omega
  clear hnr hl hsum ex h0 hc es hdg
  go_enter Try.func113, Try.ntmps113
  go_wp2_with fail
  refine (LeadingZeros32_n x _ bx).mono ?_
  rintro e w' ⟨rfl, rfl⟩
  rw [ES.out]
  go_wp2_with fail
  refine (shifted_k _ bs d s (m + 2) w hb HL.out (by omega) h32).mono ?_
  rintro e w1 ⟨ws, rfl, hwl, hwb, hwv, hwr, b1⟩
  go_wp2_with fail
  refine (shifted_k _ us c s us.length w1 (ha.below b1) rfl hs h32).mono ?_
  rintro e w2 ⟨zs, rfl, hzl, hzb, hzv, hzr, b2⟩
  obtain ⟨hV, htop⟩ := HNR.out ws hwb hwl hwv
  have hvl : (ws.take (m + 2)).length = m + 2 := by rw [List.length_take, hwl]; omega
  have hhalf := top_half hvl htop
  have hsz := lg_size ha.lb h32 hle hhalf
  rw [HDG.out] at hsz
  obtain ⟨vs, evs⟩ : ∃ vs, ws.take (m + 2) = vs := ⟨_, rfl⟩
  rw [evs] at hV htop hvl hsz
  have hlbv : Lb vs := by rw [← evs]; exact hwb.take _
  have g12 : w.heap.size < w1.heap.size := hwr.lt
  have g23 : w1.heap.size < w2.heap.size := hzr.lt
  have hLim : ∀ W, Row W w.heap.size ws → Lim W (some ⟨w.heap.size, 0, none⟩) (m + 2 + 1) vs := fun W hW => by
    have := (hW.lim hwb (by rw [hwl]; omega)).take (m + 2)
    rw [evs, hwl] at this
    exact this
  have hstart : Lg (val us * 2 ^ s) (val vs) zs (zeros dg) dg := Lg.start hzv (fun k => zeros_get _ _) (zeros_val _) hsz
  have hbw : Below w.heap.size w w2 := b1.trans (b2.mono b1.size)
  have hwr2 : Row w2 w.heap.size ws := hwr.below b2 g12
  have HV := Lib.hid hV
  have HTOP := Lib.hid htop
  have HVL := Lib.hid hvl
  have HLIM := Lib.hid hLim
  have HST := Lib.hid hstart
  have HZL := Lib.hid hzl
  clear hV htop hvl hLim hstart hzl hwv hzv hwl evs hhalf hsz HNR
  go_wp2_with fail
  go_loopw [36] (fun i wr => ∃ (k j : Nat) (ys qs : List Nat), k + j = dg ∧ i = .int .i64 k ∧ ys.length = us.length + 1 ∧ qs.length = dg ∧ Lb ys ∧ Lb qs ∧ Row wr w.heap.size ws ∧ Row wr w1.heap.size ys ∧ Row wr w2.heap.size qs ∧ Below w.heap.size w wr ∧ Hid (Lg (val us * 2 ^ s) (val vs) ys qs j)) (fun i _ => dg - (intOf i).toNat)
  case atStart => exact ⟨0, dg, zs, zeros dg, by omega, rfl, HZL.out, zeros_length _, hzb, zeros_lb _, hwr2.alloc _, hzr.alloc _, Row.new _ _, hbw.alloc (by omega) _, HST⟩
  case round =>
    obtain ⟨k, jj, ys, qs, hkj, rfl, hyl, hql, hyb, hqb, r1, r2, r3, hbel, hLg⟩ := hrel
    have HYL := Lib.hid hyl
    have HQL := Lib.hid hql
    have HKJ := Lib.hid hkj
    clear hyl hql hmk hzr hwr hwr2 b1 b2 hbw HST
    by_cases hlt : k < dg
    · obtain ⟨j, rfl⟩ : ∃ j, jj = j + 1 := ⟨jj - 1, by omega⟩
      have ej : (dg : Int) - 1 - (k : Int) = (j : Int) := by omega
      have hjn : j + m + 2 ≤ us.length := by have := HS.out; omega
      have hjd : j < dg := by omega
      have hj2 : j ≤ us.length := by omega
      have hne : ¬ us.length + 1 = j := by omega
      have hkn : Kn ys vs j m := ⟨HVL.out, hlbv, hyb, by rw [HYL.out]; omega, HTOP.out, hLg.out.lt⟩
      have hq1 := r3.cell (i := j) (by rw [HQL.out]; exact hjd)
      have hq2 := r3.frozen j
      have HKN := Lib.hid hkn
      clear hkj hkn
      go_wp2_with fail
      rw [show j + (m + 2) + 1 - j = m + 3 by omega]
      refine (nextDigit_c _ ys vs w1.heap.size j m (us.length + 1 - j) (m + 2 + 1) wr HKN.out r2 (HLIM.out wr r1) (by intro b' o' e; injection e with e; injection e with e1 e2; omega) (by omega) (by rw [HYL.out]; omega) (by omega)).mono ?_
      rintro e w5 ⟨xs, rfl, hxl, hxb, hxr, hxv, hon⟩
      have hless := HKN.out.less hxv
      have hQ := HKN.out.Q_lt
      obtain ⟨Q, eQ⟩ : ∃ Q, val (ys.drop j) / val vs = Q := ⟨_, rfl⟩
      rw [eQ] at hxv hQ ⊢
      have hlg2 := hLg.out.step (Q := Q) (by rw [HQL.out]; exact hjd) hxv hless
      have r1' := hon.row (by omega) r1
      have r3' := hon.row (by omega) r3
      have hbel5 : Below w.heap.size w w5 := hbel.trans (hon.bel.mono (by omega))
      have hq3 := r3'.cell (i := j) (by rw [HQL.out]; exact hjd)
      have hq4 := r3'.frozen j
      have hput := r3'.put j Q (z := (Q : Int)) rfl
      have HXL := Lib.hid hxl
      have HLG2 := Lib.hid hlg2
      clear eQ hxv hless hlg2 hxl hq1 hq2 r1 r2 r3 hLg HKN hbel hne
      rw [Ba_eq] at hQ
      go_wp2
      go_roundw
      case rel => exact ⟨k + 1, j, xs, qs.set j Q, by have := HKJ.out; omega, by go_num, by rw [HXL.out]; exact HYL.out, by rw [List.length_set]; exact HQL.out, hxb, hqb.set _ _ hQ, r1'.far (by show w.heap.size ≠ w2.heap.size; omega) _, hxr.far (by show w1.heap.size ≠ w2.heap.size; omega) _, hput, hbel5.setCell (by show w.heap.size ≤ w2.heap.size; omega) _, HLG2⟩
      case measure => simp [intOf]; omega
    · have ejj : jj = 0 := by omega
      subst ejj
      obtain rfl : k = dg := by omega
      obtain ⟨hq, hz⟩ := hLg.out.finish
      have hpow : 0 < 2 ^ s := Nat.pow_pos (by decide)
      have hq' : val qs = val us / val bs := by rw [hq, HV.out, Nat.mul_div_mul_right _ _ hpow]
      have hz' : val ys = val us % val bs * 2 ^ s := by rw [hz, HV.out, Nat.mul_mod_mul_right]
      have hlt2 : val ys < Ba ^ (m + 2) := by
        have h1 := hLg.out.lt
        have h2 := val_lt hlbv
        rw [HVL.out] at h2
        simp at h1
        omega
      have htk := val_take_of_zero (zero_of_val hlt2)
      have hlim := (r2.lim hyb (by rw [HYL.out]; omega)).take (m + 2)
      rw [HYL.out] at hlim
      have htl : (ys.take (m + 2)).length = m + 2 := by rw [List.length_take, HYL.out]; omega
      have hval : val (ys.take (m + 2)) / 2 ^ s = val us % val bs := by rw [htk, hz', Nat.mul_div_cancel _ hpow]
      have HQ := Lib.hid hq'
      have HVAL := Lib.hid hval
      have HTL := Lib.hid htl
      have g3 : w2.heap.size < wr.heap.size := r3.lt
      clear hq hz hq' hz' hlt2 htk htl hval hLg hkj
      go_wp2_with fail
      refine (ShiftRight_k _ (ys.take (m + 2)) _ s (m + 2) wr hlim HTL.out (by omega) (by omega)).mono ?_
      rintro e w6 ⟨A6, c6, rfl, r6, b6⟩
      rw [HVAL.out] at r6 ⊢
      have r3' := r3.below b6 g3
      have hbel6 : Below w.heap.size w w6 := hbel.trans (b6.mono hbel.size)
      go_wp2_with fail
      have hown := r3'.own hqb (lo := w.heap.size) (by omega) (by rw [HQL.out]; omega)
      rw [HQL.out] at hown
      refine (cut_k _ qs k k (val us / val bs) w6 hown.lim HQL.out HQ.out).mono ?_
      rintro e w7 ⟨rfl, rfl⟩
      have hcut := hown.cut
      rw [HQ.out] at hcut
      go_wp2
      go_ret2
      exact ⟨_, _, A6, c6, rfl, hcut, r6.mono hbel.size, hbel6⟩

/-- the division in full -/
theorem DivMod_long (A B : Option Addr) (xs ys : List Nat) (c d : Nat) (w : World) (ha : Lim w A c xs) (hb : Lim w B d ys) (hs : xs.length < 70368744177664) (hge : val ys ≤ val xs) (hbig : Ba * Ba ≤ val xs) (h1 : 2 ≤ (limbs (val ys)).length) : Calls Try.prog 95 #[.slice A xs.length c, .slice B ys.length d] w (RetDiv w (val xs / val ys) (val xs % val ys)) := by
  have la := limbs_length_le ha.lb
  have l2 : (2 : Int) < ((limbs (val xs)).length : Int) := by
    have : ¬ (limbs (val xs)).length ≤ 2 := fun h => by have := limbs_two.1 h; omega
    omega
  have ec : 0 ≤ cmpN (val (limbs (val xs))) (val (limbs (val ys))) := by
    rw [val_limbs, val_limbs]
    rcases Nat.lt_or_eq_of_le hge with h | h
    · rw [cmpN_gt h]; omega
    · rw [cmpN_eq h.symm]; omega
  obtain ⟨m, em⟩ : ∃ m, (limbs (val ys)).length = m + 2 := ⟨(limbs (val ys)).length - 2, by omega⟩
  have hy0 : val ys ≠ 0 := fun h => by rw [h, limbs_zero] at h1; simp at h1
  have htop := limbs_last hy0
  rw [em, show m + 2 - 1 = m + 1 from rfl] at htop
  have hmono := limbs_mono hge
  rw [em] at hmono
  have lne : (((limbs (val ys)).length : Int) == 0) = false := by rw [em, beq_eq_false_iff_ne]; omega
  have EM := Lib.hid em
  have HTOP := Lib.hid htop
  have em1 : (((m : Int) + 2) == 1) = false := by rw [beq_eq_false_iff_ne]; omega
  clear em htop hge hbig h1 hy0
  go_enter Try.func95, Try.ntmps95
  go_wp2_with fail
  refine (cut_c _ _ _ _ ha).mono ?_
  rintro e w' ⟨rfl, rfl⟩
  go_wp2_with fail
  refine (cut_c _ _ _ _ hb).mono ?_
  rintro e w' ⟨rfl, rfl⟩
  go_wp2_with fail
  refine (Compare_c _ _ _ _ _ _ _ ha.cut hb.cut).mono ?_
  rintro e w' ⟨rfl, n, rfl⟩
  generalize cmpN (val (limbs (val xs))) (val (limbs (val ys))) = z at *
  have ec' : ¬ z < 0 := by omega
  clear lne
  rw [EM.out]
  have l2' : ¬ (((limbs (val xs)).length : Int) ≤ 2) := by omega
  go_wp2_with fail
  refine (divideLong_c _ _ (limbs (val xs)) (limbs (val ys)) m c d _ (ha.cut.drewN n) (hb.cut.drewN n) EM.out hmono (by omega) HTOP.out).mono ?_
  rintro e w1 ⟨A1, c1, A2, c2, rfl, r1, r2, b1'⟩
  rw [val_limbs, val_limbs] at r1 r2 ⊢
  go_wp2
  go_ret3
  exact ⟨A1, c1, A2, c2, rfl, r1, r2, (below_drewN (Below.refl _ w) n).trans b1'⟩

theorem DivMod_c (A B : Option Addr) (xs ys : List Nat) (c d : Nat) (w : World) (ha : Lim w A c xs) (hb : Lim w B d ys) (hs : xs.length < 70368744177664) (h0 : val ys ≠ 0) : Calls Try.prog 95 #[.slice A xs.length c, .slice B ys.length d] w (RetDiv w (val xs / val ys) (val xs % val ys)) := by
  rcases Nat.lt_or_ge (val xs) (val ys) with hlt | hge
  · exact DivMod_lt A B xs ys c d w ha hb (by omega) hlt
  · rcases Nat.lt_or_ge (val xs) (Ba * Ba) with hsm | hbig
    · exact DivMod_small A B xs ys c d w ha hb h0 hge hsm
    · rcases Nat.lt_or_ge (limbs (val ys)).length 2 with h1 | h1
      · have hp : 0 < (limbs (val ys)).length := List.length_pos_iff.2 (fun e => h0 (limbs_eq_nil.1 e))
        exact DivMod_limb A B xs ys c d w ha hb (by omega) hge hbig (by omega)
      · exact DivMod_long A B xs ys c d w ha hb hs hge hbig h1

end Go.Proofs.Ytaeidephegnkdaa
