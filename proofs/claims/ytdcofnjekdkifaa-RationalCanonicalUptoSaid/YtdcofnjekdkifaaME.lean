/- NatL NatM in one text. -/
import Derived.Test.YtdcofnjekdkifaaMD2
import Derived.Deep.LoopGhost
namespace Go.Proofs.Ytdcofnjekdkifaa
open Go.RowKit Gm
/- Contracts of package natural: the leading bits of two numbers. -/
namespace Gm
/-- the window of 64 bits -/
theorem win_val {xs : List Nat} {m s : Nat} (h : Lb xs) (hl : xs.length ≤ m + 3) (hs : s ≤ 32) :
    val xs / (Ba ^ m * 2 ^ (32 - s)) = (xs[m + 2]?.getD 0 * Ba + xs[m + 1]?.getD 0) * 2 ^ s + xs[m]?.getD 0 / 2 ^ (32 - s) := by
  have hz : ∀ k, m + 3 ≤ k → xs[k]?.getD 0 = 0 := fun k hk => by rw [List.getElem?_eq_none (by omega)]; rfl
  have h3 : val (xs.take (m + 3)) = val xs := val_take_of_zero hz
  rw [val_take_succ', val_take_succ', val_take_succ'] at h3
  have hlow := val_take_lt h m
  rw [← h3, ← Nat.div_div_eq_div_mul]
  generalize xs[m + 2]?.getD 0 = a
  generalize xs[m + 1]?.getD 0 = b
  generalize xs[m]?.getD 0 = c
  have e1 : val (xs.take m) + Ba ^ m * c + Ba ^ (m + 1) * b + Ba ^ (m + 2) * a = val (xs.take m) + Ba ^ m * (c + Ba * (a * Ba + b)) := by
    rw [Nat.pow_succ, Nat.pow_succ]; grind
  rw [e1, Nat.add_mul_div_left _ _ (Nat.pow_pos Ba_pos), Nat.div_eq_of_lt hlow, Nat.zero_add]
  have hp : 2 ^ (32 - s) * 2 ^ s = Ba := by rw [← Nat.pow_add, show 32 - s + s = 32 by omega]; rfl
  have e2 : c + Ba * (a * Ba + b) = c + 2 ^ (32 - s) * ((a * Ba + b) * 2 ^ s) := by rw [← hp]; grind
  rw [e2, Nat.add_mul_div_left _ _ (Nat.pow_pos (by decide)), Nat.add_comm]
end Gm

set_option maxHeartbeats 1000000 in
theorem limb_c (A : Option Addr) (xs : List Nat) (c i g : Nat) (w : World) (z : Int) (hz : z = (i : Int)) (h : Lim w A c xs) (hg : w.cell? ⟨g, 0, none⟩ = some (.slice A xs.length c)) :
    Calls Try.prog 116 #[.int .i64 z, .pointer (some ⟨g, 0, none⟩)] w fun e w' => e = .returned (.int .u64 ((xs[i]?.getD 0 : Nat) : Int)) ∧ w' = w := by
  subst hz
  by_cases hi : i < xs.length
  · obtain ⟨b, o, rfl, hb, hc⟩ := h.at_ (by omega)
    have hx := hc i hi
    have bx : xs[i]?.getD 0 < 4294967296 := h.lb.get i
    obtain ⟨x, ex⟩ : ∃ x, xs[i]?.getD 0 = x := ⟨_, rfl⟩
    rw [ex] at hx bx ⊢
    clear ex hc h
    have hi2 : (i : Int) < (xs.length : Int) := by omega
    go_enter Try.func116, Try.ntmps116
    go_wp2
    go_ret
    exact ⟨rfl, rfl⟩
  · have ex : xs[i]?.getD 0 = 0 := by rw [List.getElem?_eq_none (by omega)]; rfl
    rw [ex]
    clear ex
    have hi2 : ¬ (i : Int) < (xs.length : Int) := by omega
    go_enter Try.func116, Try.ntmps116
    go_wp2
    go_ret
    exact ⟨rfl, rfl⟩
set_option maxHeartbeats 1000000 in
theorem window_c (A : Option Addr) (xs : List Nat) (c m s : Nat) (w : World) (h : Lim w A c xs) (hl : xs.length ≤ m + 3) (hm : m ≤ 70368744177664) (h32 : s < 32) (hfit : xs[m + 2]?.getD 0 * 2 ^ s < Ba) :
    Calls Try.prog 112 #[.slice A xs.length c, .int .i64 ((m : Int) + 3), .int .i64 (s : Int)] w fun e w' => e = .returned (.int .u64 ((val xs / (Ba ^ m * 2 ^ (32 - s)) : Nat) : Int)) ∧ Below w.heap.size w w' := by
  have hb := bel1 w (.cells #[.slice A xs.length c] 22)
  have hcell : (w.alloc (.cells #[.slice A xs.length c] 22)).cell? ⟨w.heap.size, 0, none⟩ = some (.slice A xs.length c) := by go_simp
  have h2 := h.below hb
  have b2 : xs[m + 2]?.getD 0 < 4294967296 := h.lb.get _
  have b1 : xs[m + 1]?.getD 0 < 4294967296 := h.lb.get _
  have b0 : xs[m]?.getD 0 < 4294967296 := h.lb.get _
  have hwin := win_val h.lb hl (Nat.le_of_lt h32)
  rw [hwin]
  have HC := Lib.hid hcell
  have c2 := fun n => limb_c A xs c (m + 2) w.heap.size ((w.alloc (.cells #[.slice A xs.length c] 22)).drewN n) ((m : Int) + 2) (by omega) (h2.drewN n) hcell
  have c1 := fun n => limb_c A xs c (m + 1) w.heap.size ((w.alloc (.cells #[.slice A xs.length c] 22)).drewN n) ((m : Int) + 1) (by omega) (h2.drewN n) hcell
  have c0 := fun n => limb_c A xs c m w.heap.size ((w.alloc (.cells #[.slice A xs.length c] 22)).drewN n) (m : Int) rfl (h2.drewN n) hcell
  obtain ⟨x2, e2⟩ : ∃ x, xs[m + 2]?.getD 0 = x := ⟨_, rfl⟩
  obtain ⟨x1, e1⟩ : ∃ x, xs[m + 1]?.getD 0 = x := ⟨_, rfl⟩
  obtain ⟨x0, e0⟩ : ∃ x, xs[m]?.getD 0 = x := ⟨_, rfl⟩
  simp only [e2] at c2 b2 hfit ⊢
  simp only [e1] at c1 b1 ⊢
  simp only [e0] at c0 b0 ⊢
  have C2 := Lib.hid c2
  have C1 := Lib.hid c1
  have C0 := Lib.hid c0
  clear hwin e2 e1 e0 c2 c1 c0 hcell HC
  have i1 : IntKind.i64.wrap ((m : Int) + 3 - 1) = (m : Int) + 2 := by rw [IntWalk.i64_in _ (by omega)]; omega
  have i2 : IntKind.i64.wrap ((m : Int) + 3 - 2) = (m : Int) + 1 := by rw [IntWalk.i64_in _ (by omega)]; omega
  have i3 : IntKind.i64.wrap ((m : Int) + 3 - 3) = (m : Int) := by rw [IntWalk.i64_in _ (by omega)]; omega
  have i4 : IntKind.u64.wrap ((x2 : Int) * 4294967296) = (x2 : Int) * 4294967296 := by rw [IntKind.wrap_u64]; omega
  have hor := or_hi' x1 x2 b1 b2
  obtain ⟨t, et⟩ : ∃ t, 32 - s = t := ⟨_, rfl⟩
  have i5 : IntKind.i64.wrap (32 - (s : Int)) = (t : Int) := by rw [IntWalk.i64_in _ (by omega)]; omega
  have hp : 2 ^ t * 2 ^ s = Ba := by rw [← Nat.pow_add, show t + s = 32 by omega]; rfl
  have hlow : x0 / 2 ^ t < 2 ^ s := Nat.div_lt_of_lt_mul (by rw [hp]; exact b0)
  have hPb : (x1 + 4294967296 * x2) * 2 ^ s < 18446744073709551616 := by
    have h1 : x1 + 4294967296 * x2 < 4294967296 * (x2 + 1) := by omega
    have h2 : x2 * 2 ^ s + 2 ^ s ≤ Ba := by
      have h3 : x2 * 2 ^ s < 2 ^ t * 2 ^ s := by rw [hp]; exact hfit
      have h4 : x2 < 2 ^ t := Nat.lt_of_mul_lt_mul_right h3
      have h5 : (x2 + 1) * 2 ^ s ≤ 2 ^ t * 2 ^ s := Nat.mul_le_mul_right _ h4
      rw [hp, Nat.add_mul] at h5
      omega
    have h6 : (x1 + 4294967296 * x2) * 2 ^ s < 4294967296 * (x2 + 1) * 2 ^ s := Nat.mul_lt_mul_of_pos_right h1 (Nat.pow_pos (by decide))
    have h7 : 4294967296 * (x2 + 1) * 2 ^ s ≤ 4294967296 * 4294967296 := by
      rw [Nat.mul_assoc]; exact Nat.mul_le_mul_left _ (by rw [Nat.add_mul, Nat.one_mul]; exact h2)
    exact Nat.lt_of_lt_of_le h6 h7
  have i6 : IntKind.u64.wrap (((x1 + 4294967296 * x2 : Nat) : Int) * 2 ^ s) = (((x1 + 4294967296 * x2) * 2 ^ s : Nat) : Int) := by
    have e : ((x1 + 4294967296 * x2 : Nat) : Int) * 2 ^ s = (((x1 + 4294967296 * x2) * 2 ^ s : Nat) : Int) := by simp
    rw [e, IntKind.wrap_u64]
    generalize (x1 + 4294967296 * x2) * 2 ^ s = P at *
    omega
  have i7 : (x0 : Int) / 2 ^ t = ((x0 / 2 ^ t : Nat) : Int) := by simp
  have hor2 : bits .or .u64 (((x1 + 4294967296 * x2) * 2 ^ s : Nat) : Int) ((x0 / 2 ^ t : Nat) : Int) = (((x2 * Ba + x1) * 2 ^ s + x0 / 2 ^ t : Nat) : Int) := by
    rw [u64_or_nat _ _ hPb (Nat.lt_of_le_of_lt (Nat.div_le_self _ _) (by omega))]
    have h3 := Nat.shiftLeft_add_eq_or_of_lt hlow (x1 + 4294967296 * x2)
    rw [Nat.shiftLeft_eq] at h3
    rw [← h3, Ba_eq, Nat.mul_comm x2, Nat.add_comm (4294967296 * x2)]
  rw [et]
  obtain ⟨V, eV⟩ : ∃ V, x1 + 4294967296 * x2 = V := ⟨_, rfl⟩
  rw [eV] at hor hor2 i6 hPb
  obtain ⟨P, eP⟩ : ∃ P, V * 2 ^ s = P := ⟨_, rfl⟩
  rw [eP] at hor2 i6 hPb
  obtain ⟨L, eL⟩ : ∃ L, x0 / 2 ^ t = L := ⟨_, rfl⟩
  rw [eL] at hor2 i7 ⊢
  obtain ⟨Z, eZ⟩ : ∃ Z, (x2 * Ba + x1) * 2 ^ s + L = Z := ⟨_, rfl⟩
  rw [eZ] at hor2 ⊢
  have i8 : min t 64 = t := Nat.min_eq_left (by omega)
  clear et eV eP eL eZ hp hlow hPb hfit
  go_enter Try.func112, Try.ntmps112
  go_wp2_with fail
  go_quiet (first
    | (go_at_call 116; with_reducible exact Calls.quiet_of_same (C2.out _))
    | (go_at_call 116; with_reducible exact Calls.quiet_of_same (C1.out _))
    | (go_at_call 116; with_reducible exact Calls.quiet_of_same (C0.out _)))
  go_wp2
  go_ret
  exact ⟨rfl, below_drewN hb _⟩

theorem window_n (A : Option Addr) (xs : List Nat) (c m s : Nat) (w : World) (D Y k : Nat) (z : Int) (hk : xs.length = k) (hz : z = (m : Int) + 3) (hD : Ba ^ m * 2 ^ (32 - s) = D) (hY : val xs / D = Y) (h : Lim w A c xs) (hl : xs.length ≤ m + 3) (hm : m ≤ 70368744177664) (h32 : s < 32) (hfit : xs[m + 2]?.getD 0 * 2 ^ s < Ba) :
    Calls Try.prog 112 #[.slice A k c, .int .i64 z, .int .i64 (s : Int)] w fun e w' => e = .returned (.int .u64 (Y : Int)) ∧ Below w.heap.size w w' := by
  subst hk hz hD hY
  exact window_c A xs c m s w h hl hm h32 hfit

theorem LI_bounds {X Y x y u0 u1 u2 v0 v1 v2 : Nat} {even : Bool} (h : LI X Y x y u0 u1 u2 v0 v1 v2 even) (hy : v2 ≤ y) : u1 + x / y * u2 ≤ Y := by
  have ypos : 0 < y := by have := h.v2pos; omega
  have hu := h.hu
  have hm := Nat.mod_add_div x y
  generalize x / y = q at *
  generalize x % y = r at *
  have e2 : y * (u1 + q * u2) + r * u2 = Y := by rw [← hm] at hu; grind
  have h5 : 1 * (u1 + q * u2) ≤ y * (u1 + q * u2) := Nat.mul_le_mul_right _ ypos
  omega
theorem below_put5 {B N : Nat} {a w : World} (h : Below B a w) (hN : B ≤ N) (v0 v1 v2 v3 v4 : Value) : Below B a (((((w.setCell ⟨N, 0, none⟩ v0).setCell ⟨N, 1, none⟩ v1).setCell ⟨N, 2, none⟩ v2).setCell ⟨N, 3, none⟩ v3).setCell ⟨N, 4, none⟩ v4) :=
  ((((h.setCell hN _).setCell hN _).setCell hN _).setCell hN _).setCell hN _

/-- what the search for cofactors returns -/
def RetCof (X Y : Nat) (w : World) (e : Ending) (w' : World) : Prop :=
  ∃ (x y u0 u1 u2 v0 v1 v2 : Nat) (ev : Bool), LI X Y x y u0 u1 u2 v0 v1 v2 ev ∧ u0 < Ba * Ba ∧ u1 < Ba * Ba ∧ v0 < Ba * Ba ∧ v1 < Ba * Ba ∧
    e = .returned (.agg #[.int .u64 (u0 : Int), .int .u64 (u1 : Int), .int .u64 (v0 : Int), .int .u64 (v1 : Int), .bool ev]) ∧ Below w.heap.size w w'

set_option maxHeartbeats 4000000 in
set_option maxRecDepth 100000 in
theorem leading_c (A B : Option Addr) (us vs : List Nat) (c d m s D : Nat) (w : World) (ha : Lim w A c us) (hb : Lim w B d vs) (hl : us.length = m + 3) (hm : m ≤ 70368744177660) (h0 : us[m + 2]?.getD 0 ≠ 0) (hle : val vs ≤ val us) (hvl : vs.length ≤ m + 3) (hs : 32 - nb (us[m + 2]?.getD 0) = s) (hD : Ba ^ m * 2 ^ (32 - s) = D) :
    Calls Try.prog 102 #[.slice A (m + 3) c, .slice B vs.length d] w (RetCof (val us / D) (val vs / D) w) := by
  obtain ⟨b, o, rfl, hbl, hc⟩ := ha.at_ (by omega)
  have hx := hc (m + 2) (by omega)
  have bx : us[m + 2]?.getD 0 < 4294967296 := ha.lb.get (m + 2)
  obtain ⟨h32, _, hfit⟩ := norm_top (x := us[m + 2]?.getD 0) (s := s) bx h0 hs.symm
  have hfit2 : vs[m + 2]?.getD 0 * 2 ^ s < Ba := by
    have h1 : vs[m + 2]?.getD 0 ≤ us[m + 2]?.getD 0 := by
      rcases Nat.lt_or_ge (us[m + 2]?.getD 0) (vs[m + 2]?.getD 0) with hh | hh
      · exfalso
        have hvl2 : m + 2 < vs.length := by
          rcases Nat.lt_or_ge (m + 2) vs.length with h | h
          · exact h
          · rw [List.getElem?_eq_none h] at hh; simp at hh
        have := cmp_lt (xs := us) (ys := vs) (i := m + 2) ha.lb (by omega) hvl2 (by rw [List.drop_of_length_le (by omega), List.drop_of_length_le (by omega)]) hh
        omega
      · exact hh
    exact Nat.lt_of_le_of_lt (Nat.mul_le_mul_right _ h1) hfit
  obtain ⟨x, ex⟩ : ∃ x, us[m + 2]?.getD 0 = x := ⟨_, rfl⟩
  rw [ex] at hx bx hs
  have hdl : val vs / D ≤ val us / D := Nat.div_le_div_right hle
  obtain ⟨X, eX⟩ : ∃ X, val us / D = X := ⟨_, rfl⟩
  obtain ⟨Y, eY⟩ : ∃ Y, val vs / D = Y := ⟨_, rfl⟩
  have hXb : X < Ba * Ba := by
    rw [← eX]
    apply Nat.div_lt_of_lt_mul
    have h1 := val_lt ha.lb
    rw [hl] at h1
    have hsp := val_split (xs := us) (i := m + 2) (by omega)
    rw [List.drop_of_length_le (show us.length ≤ m + 2 + 1 by omega)] at hsp
    simp only [val, Nat.mul_zero, Nat.add_zero] at hsp
    have hlow := val_take_lt ha.lb (m + 2)
    have hp : 2 ^ (32 - s) * 2 ^ s = Ba := by rw [← Nat.pow_add, show 32 - s + s = 32 by omega]; rfl
    have h4 : us[m + 2]?.getD 0 < 2 ^ (32 - s) := by
      have h3 : us[m + 2]?.getD 0 * 2 ^ s < 2 ^ (32 - s) * 2 ^ s := by rw [hp]; exact hfit
      exact Nat.lt_of_mul_lt_mul_right h3
    rw [hsp, ← hD]
    have h5 : Ba ^ (m + 2) * (us[m + 2]?.getD 0 + 1) ≤ Ba ^ (m + 2) * 2 ^ (32 - s) := Nat.mul_le_mul_left _ h4
    have h6 : Ba ^ (m + 2) * 2 ^ (32 - s) = Ba ^ m * 2 ^ (32 - s) * (Ba * Ba) := by rw [Nat.pow_succ, Nat.pow_succ]; grind
    rw [Nat.mul_add, Nat.mul_one] at h5
    omega
  rw [eX, eY] at hdl ⊢
  have hst := LI.start hdl
  have HST := Lib.hid hst
  have EX := Lib.hid eX
  have EY := Lib.hid eY
  have HF := Lib.hid hfit
  have HF2 := Lib.hid hfit2
  have HS := Lib.hid hs
  have HD := Lib.hid hD
  have HL := Lib.hid hl
  have hBB : Ba * Ba = 18446744073709551616 := by decide
  rw [hBB] at hXb
  clear eX eY hfit hfit2 hs hD hl h0 hle hc ex hst hBB
  go_enter Try.func102, Try.ntmps102
  go_wp2_with fail
  refine (LeadingZeros32_n x _ bx).mono ?_
  rintro e w' ⟨rfl, rfl⟩
  rw [HS.out]
  have b0 := bel1 w (.cells #[.int .u64 0, .int .u64 0, .int .u64 0, .int .u64 0, .bool false] 91)
  have hcell : ∀ w9, Below (w.heap.size + 1) (w.alloc (.cells #[.int .u64 0, .int .u64 0, .int .u64 0, .int .u64 0, .bool false] 91)) w9 →
      (w9.cell? ⟨w.heap.size, 0, none⟩ = some (.int .u64 0) ∧ w9.cell? ⟨w.heap.size, 1, none⟩ = some (.int .u64 0) ∧ w9.cell? ⟨w.heap.size, 2, none⟩ = some (.int .u64 0) ∧ w9.cell? ⟨w.heap.size, 3, none⟩ = some (.int .u64 0) ∧ w9.cell? ⟨w.heap.size, 4, none⟩ = some (.bool false)) ∧
      w9.frozen? ⟨w.heap.size, 0, none⟩ = false ∧ w9.frozen? ⟨w.heap.size, 1, none⟩ = false ∧ w9.frozen? ⟨w.heap.size, 2, none⟩ = false ∧ w9.frozen? ⟨w.heap.size, 3, none⟩ = false ∧ w9.frozen? ⟨w.heap.size, 4, none⟩ = false := fun w9 hb9 => by
    refine ⟨⟨?_, ?_, ?_, ?_, ?_⟩, ?_, ?_, ?_, ?_, ?_⟩
    all_goals first
      | (rw [hb9.cell (by show w.heap.size < w.heap.size + 1; omega)]; go_simp)
      | (rw [hb9.frozen (by show w.heap.size < w.heap.size + 1; omega)]; go_simp)
  have HCELL := Lib.hid hcell
  clear hcell
  go_wp2_with fail
  refine (window_n _ us c m s _ D X (m + 3) _ HL.out rfl HD.out EX.out (ha.below b0) (by rw [HL.out]; exact Nat.le_refl _) (by omega) h32 HF.out).mono ?_
  rintro e w1 ⟨rfl, b1⟩
  have hs1 : w.heap.size + 1 ≤ w1.heap.size := by have := b1.size; simpa using this
  have b01 : Below (w.heap.size + 1) (w.alloc (.cells #[.int .u64 0, .int .u64 0, .int .u64 0, .int .u64 0, .bool false] 91)) w1 := b1.mono (by simp)
  go_wp2_with fail
  refine (window_n _ vs d m s _ D Y vs.length _ rfl rfl HD.out EY.out ((hb.below b0).below b1) hvl (by omega) h32 HF2.out).mono ?_
  rintro e w2 ⟨rfl, b2⟩
  obtain ⟨⟨p0, p1, p2, p3, p4⟩, f0, f1, f2, f3, f4⟩ := HCELL.out w2 (b01.trans (b2.mono hs1))
  have hbel : Below w.heap.size w w2 := (b0.trans (b1.mono (by simp))).trans (b2.mono (by omega))
  clear b0 b1 b2 b01 hs1 HCELL ha hb hx
  go_wp2_with fail
  go_loopw [7, 8, 9, 10, 11, 12, 13, 14, 15] (fun a b c0 c1 c2 d0 d1 d2 ev wr => ∃ (x y u0 u1 u2 v0 v1 v2 n : Nat) (even : Bool), a = .int .u64 x ∧ b = .int .u64 y ∧ c0 = .int .u64 u0 ∧ c1 = .int .u64 u1 ∧ c2 = .int .u64 u2 ∧ d0 = .int .u64 v0 ∧ d1 = .int .u64 v1 ∧ d2 = .int .u64 v2 ∧ ev = .bool even ∧
    (x ≤ 18446744073709551615 ∧ y ≤ x) ∧ (u0 ≤ 18446744073709551615 ∧ u1 ≤ 18446744073709551615 ∧ u2 ≤ 18446744073709551615 ∧ v0 ≤ 18446744073709551615 ∧ v1 ≤ 18446744073709551615 ∧ v2 ≤ 18446744073709551615) ∧ Hid (LI X Y x y u0 u1 u2 v0 v1 v2 even) ∧ wr = w2.drewN n) (fun _ b _ _ _ _ _ _ _ _ => (intOf b).toNat)
  case atStart => exact ⟨X, Y, 0, 1, 0, 0, 0, 1, 0, false, rfl, rfl, rfl, rfl, rfl, rfl, rfl, rfl, rfl, ⟨by omega, hdl⟩, by omega, HST, rfl⟩
  case round =>
    obtain ⟨x, y, u0, u1, u2, v0, v1, v2, n, even, rfl, rfl, rfl, rfl, rfl, rfl, rfl, rfl, rfl, ⟨hx1, hyx⟩, ⟨k1, k2, k3, k4, k5, k6⟩, hLI, rfl⟩ := hrel
    have hfin : RetCof X Y w (.returned (.agg #[.int .u64 (u0 : Int), .int .u64 (u1 : Int), .int .u64 (v0 : Int), .int .u64 (v1 : Int), .bool even])) ((((((w2.drewN n).setCell ⟨w.heap.size, 0, none⟩ (.int .u64 (u0 : Int))).setCell ⟨w.heap.size, 1, none⟩ (.int .u64 (u1 : Int))).setCell ⟨w.heap.size, 2, none⟩ (.int .u64 (v0 : Int))).setCell ⟨w.heap.size, 3, none⟩ (.int .u64 (v1 : Int))).setCell ⟨w.heap.size, 4, none⟩ (.bool even)) := by
      have hBB : Ba * Ba = 18446744073709551616 := by decide
      exact ⟨x, y, u0, u1, u2, v0, v1, v2, even, hLI.out, by omega, by omega, by omega, by omega, rfl, below_put5 (below_drewN hbel n) (Nat.le_refl _) _ _ _ _ _⟩
    have HFIN := Lib.hid hfin
    clear hfin
    by_cases hy : v2 ≤ y
    · obtain ⟨g1, g2, g3, g4, _⟩ := hLI.out.bounds hy
      have g5 := LI_bounds hLI.out hy
      by_cases hxy : v1 + v2 ≤ x - y
      · have hstep := hLI.out.step hy hxy
        have HSTEP := Lib.hid hstep
        have q1 : (x : Int).tdiv (y : Int) = ((x / y : Nat) : Int) := by rw [Int.tdiv_eq_ediv_of_nonneg (by omega)]; rfl
        have q2 : (x : Int).tmod (y : Int) = ((x % y : Nat) : Int) := by rw [Int.tmod_eq_emod_of_nonneg (by omega)]; rfl
        have q1' : (x : Int) / (y : Int) = ((x / y : Nat) : Int) := rfl
        have hmod := Nat.mod_lt x g1
        have hdiv := Nat.div_le_self x y
        obtain ⟨q, eq⟩ : ∃ q, x / y = q := ⟨_, rfl⟩
        obtain ⟨r, er⟩ : ∃ r, x % y = r := ⟨_, rfl⟩
        rw [eq] at q1 q1' HSTEP g4 g5 hdiv
        rw [er] at q2 HSTEP hmod
        have hpe1 : (q : Int) * (u2 : Int) = ((q * u2 : Nat) : Int) := (Int.natCast_mul q u2).symm
        have hpe2 : (q : Int) * (v2 : Int) = ((q * v2 : Nat) : Int) := (Int.natCast_mul q v2).symm
        obtain ⟨M1, eM1⟩ : ∃ M, q * u2 = M := ⟨_, rfl⟩
        obtain ⟨M2, eM2⟩ : ∃ M, q * v2 = M := ⟨_, rfl⟩
        rw [eM1] at hpe1 g5 HSTEP
        rw [eM2] at hpe2 g4 HSTEP
        have hne : ((y : Int) == 0) = false := by rw [beq_eq_false_iff_ne]; omega
        have t1 : (v1 : Int) + v2 ≤ (x : Int) - y := by omega
        have m1 : M1 ≤ 18446744073709551615 := by omega
        have m2 : M2 ≤ 18446744073709551615 := by omega
        have m3 : u1 + M1 ≤ 18446744073709551615 := by omega
        have m4 : v1 + M2 ≤ 18446744073709551615 := by omega
        have m5 : v1 + v2 ≤ 18446744073709551615 := by omega
        clear eq er eM1 eM2 hstep HFIN
        go_wp2
        go_quiet (fail)
        go_wp2
        go_roundw
        case rel => exact ⟨y, r, u1, u2, u1 + M1, v1, v2, v1 + M2, _, !even, rfl, rfl, rfl, rfl, by go_num, rfl, rfl, by go_num, rfl, ⟨by omega, by omega⟩, by omega, HSTEP, rfl⟩
        case measure => simp [intOf]; omega
      · have t1 : decide ((v1 : Int) + v2 ≤ (x : Int) - y) = false := by rw [decide_eq_false_iff_not]; omega
        have m5 : v1 + v2 ≤ 18446744073709551615 := by omega
        clear g1 g2 g4 g5
        go_wp2
        exact bodyPost_ret (v := .agg #[.int .u64 (u0 : Int), .int .u64 (u1 : Int), .int .u64 (v0 : Int), .int .u64 (v1 : Int), .bool even]) (by simp [results, Try.results102, go_sem, p0, p1, p2, p3, p4]) rfl HFIN.out
    · have t1 : decide ((v2 : Int) ≤ (y : Int)) = false := by rw [decide_eq_false_iff_not]; omega
      go_wp2
      exact bodyPost_ret (v := .agg #[.int .u64 (u0 : Int), .int .u64 (u1 : Int), .int .u64 (v0 : Int), .int .u64 (v1 : Int), .bool even]) (by simp [results, Try.results102, go_sem, p0, p1, p2, p3, p4]) rfl HFIN.out

/- Contracts of package natural: the greatest common divisor in full. -/

set_option maxHeartbeats 1000000 in
theorem combine_c (A B : Option Addr) (xs ys : List Nat) (c d : Nat) (x y n : Nat) (w : World) (ha : Lim w A c xs) (hb : Lim w B d ys) (hs : xs.length ≤ 70368744177660) (ht : ys.length ≤ 70368744177660) (hx : x < Ba * Ba) (hy : y < Ba * Ba) (hle : val ys * y ≤ val xs * x) (hn : val xs * x - val ys * y = n) :
    Calls Try.prog 103 #[.slice A xs.length c, .int .u64 (x : Int), .slice B ys.length d, .int .u64 (y : Int)] w (RetNat w n) := by
  have lx := limbs_len2 hx
  have ly := limbs_len2 hy
  have lp : (limbs (val xs * x)).length ≤ 70368744177664 := by
    have h1 := limbs_mul_le (val xs) x
    have h2 := limbs_length_le ha.lb
    omega
  have HN := Lib.hid hn
  have HLE := Lib.hid hle
  clear hn hle
  go_enter Try.func103, Try.ntmps103
  go_wp2_with fail
  refine (FromUint64_c x w hx).mono ?_
  rintro e w1 ⟨A1, c1, rfl, r1, b1⟩
  go_wp2_with fail
  refine (Mul_c A A1 xs (limbs x) c c1 w1 (ha.below b1) r1.lim (by omega)).mono ?_
  rintro e w2 ⟨A2, c2, rfl, r2, b2⟩
  rw [val_limbs] at r2 ⊢
  have b02 : Below w.heap.size w w2 := b1.trans (b2.mono b1.size)
  go_wp2_with fail
  refine (FromUint64_c y w2 hy).mono ?_
  rintro e w3 ⟨A3, c3, rfl, r3, b3⟩
  have b03 : Below w.heap.size w w3 := b02.trans (b3.mono b02.size)
  go_wp2_with fail
  refine (Mul_c B A3 ys (limbs y) d c3 w3 (hb.below b03) r3.lim (by omega)).mono ?_
  rintro e w4 ⟨A4, c4, rfl, r4, b4⟩
  rw [val_limbs] at r4 ⊢
  have b04 : Below w.heap.size w w4 := b03.trans (b4.mono b03.size)
  go_wp2_with fail
  refine (SubY_n A2 A4 (limbs (val xs * x)) (limbs (val ys * y)) c2 c4 w4 (val xs * x) (val ys * y) n 70368744177664 ((r2.lim.below b3).below b4) r4.lim lp (val_limbs _) (val_limbs _) HLE.out HN.out (Nat.le_refl _)).mono ?_
  rintro e w5 ⟨A5, c5, rfl, r5, b5⟩
  have h5 := r5.mono (lo' := w.heap.size) b04.size
  have b05 : Below w.heap.size w w5 := b04.trans (b5.mono b04.size)
  clear r1 r2 r3 r4 r5 b1 b2 b3 b4 b5
  go_wp2
  go_ret
  exact ⟨A5, c5, rfl, h5, b05⟩

/-- what the loop of the greatest common divisor keeps -/
def GR (K G : Nat) (w : World) (k : Nat) (a b : Value) (wr : World) : Prop :=
  ∃ (A B : Option Addr) (c d x y : Nat), k = x + y ∧ a = .slice A (limbs x).length c ∧ b = .slice B (limbs y).length d ∧ Lim wr A c (limbs x) ∧ Lim wr B d (limbs y) ∧ y ≤ x ∧ (limbs x).length ≤ K ∧ Hid (Nat.gcd x y = G) ∧ Below w.heap.size w wr

/-- the cofactors, boxed -/
theorem cof_box (w : World) (u0 u1 v0 v1 : Nat) (b : Bool) : ∃ W, w.alloc (.cells #[.int .u64 (u0 : Int), .int .u64 (u1 : Int), .int .u64 (v0 : Int), .int .u64 (v1 : Int), .bool b] 91) = W ∧ Below w.heap.size w W ∧
    W.cell? ⟨w.heap.size, 0, none⟩ = some (.int .u64 (u0 : Int)) ∧ W.cell? ⟨w.heap.size, 1, none⟩ = some (.int .u64 (u1 : Int)) ∧ W.cell? ⟨w.heap.size, 2, none⟩ = some (.int .u64 (v0 : Int)) ∧ W.cell? ⟨w.heap.size, 3, none⟩ = some (.int .u64 (v1 : Int)) := by
  refine ⟨_, rfl, bel1 _ _, ?_, ?_, ?_, ?_⟩ <;> go_simp
theorem gcd_mod {x y : Nat} : Nat.gcd y (x % y) = Nat.gcd x y := by rw [Nat.gcd_comm x y, Nat.gcd_rec y x, Nat.gcd_comm]

set_option maxHeartbeats 4000000 in
set_option maxRecDepth 100000 in
theorem GCD_ge (A B : Option Addr) (xs ys : List Nat) (c d K : Nat) (w : World) (ha : Lim w A c xs) (hb : Lim w B d ys) (hK : (limbs (val xs)).length ≤ K) (hs : K ≤ 70368744177660) (hge : val ys ≤ val xs) :
    Calls Try.prog 82 #[.slice A xs.length c, .slice B ys.length d] w (RetNat w (Nat.gcd (val xs) (val ys))) := by
  have ec : 0 ≤ cmpN (val (limbs (val xs))) (val (limbs (val ys))) := by
    rw [val_limbs, val_limbs]; exact cmpN_nonneg hge
  obtain ⟨G, eG⟩ : ∃ G, Nat.gcd (val xs) (val ys) = G := ⟨_, rfl⟩
  rw [eG]
  have EG := Lib.hid eG
  clear eG
  go_enter Try.func82, Try.ntmps82
  go_wp2_with fail
  refine (cut_c _ _ _ _ ha).mono ?_
  rintro e w' ⟨rfl, rfl⟩
  go_wp2_with fail
  refine (cut_c _ _ _ _ hb).mono ?_
  rintro e w' ⟨rfl, rfl⟩
  go_wp2_with fail
  refine (Compare_c _ _ _ _ _ _ _ ha.cut hb.cut).mono ?_
  rintro e w' ⟨rfl, n, rfl⟩
  generalize cmpN (val (limbs (val xs))) (val (limbs (val ys))) = z at *
  have ec' : ¬ z < 0 := by omega
  have hst : GR K G w (val xs + val ys) (.slice A (limbs (val xs)).length c) (.slice B (limbs (val ys)).length d) (w.drewN n) := ⟨A, B, c, d, val xs, val ys, rfl, rfl, rfl, ha.cut.drewN n, hb.cut.drewN n, hge, hK, EG, below_drewN (Below.refl _ _) n⟩
  clear ha hb ec
  go_wp2_with fail
  go_loopg [0, 1] (val xs + val ys) (fun k a b wr => GR K G w k a b wr)
  case atStart => exact hst
  case round =>
    clear hst
    obtain ⟨A, B, c, d, x, y, rfl, rfl, rfl, hx, hy, hyx, hxK, hG, hbel⟩ := hrel
    have lyx := limbs_mono hyx
    rcases Nat.eq_zero_or_pos y with rfl | hy0
    · have HE := Lib.hid (show x = G by rw [← hG.out, Nat.gcd_zero_right])
      rw [limbs_zero]
      go_wp2_with fail
      refine (Trim_c A (limbs x) c _ hx (by omega)).mono ?_
      rintro e w1 ⟨A1, c1, rfl, r1, b1⟩
      rw [val_limbs] at r1 ⊢
      have h1 := r1.mono (lo' := w.heap.size) hbel.size
      have b01 := hbel.trans (b1.mono hbel.size)
      clear r1 b1
      go_wp2
      go_ret
      rw [← HE.out]
      exact ⟨A1, c1, rfl, h1, b01⟩
    · have lp : 0 < (limbs y).length := List.length_pos_iff.2 (fun e => by rw [limbs_eq_nil] at e; omega)
      rcases Nat.lt_or_ge x (Ba * Ba) with hsm | hbig
      · have l2 := limbs_len2 hsm
        have l2' : ((limbs x).length : Int) ≤ 2 := by omega
        go_wp2_with fail
        refine (word_c A (limbs x) c _ hx l2).mono ?_
        rintro e w' ⟨rfl, rfl⟩
        go_wp2_with fail
        refine (word_c B (limbs y) d _ hy (by omega)).mono ?_
        rintro e w' ⟨rfl, rfl⟩
        rw [val_limbs, val_limbs]
        have hBB : Ba * Ba = 18446744073709551616 := by decide
        rw [hBB] at hsm
        clear hBB
        obtain ⟨wo, rfl⟩ : ∃ wo : World, wo = wr := ⟨_, rfl⟩
        go_wp2_with fail
        go_loopw [5, 6] (fun s t wi => ∃ (x' y' k : Nat), s = .int .u64 x' ∧ t = .int .u64 y' ∧ x' ≤ 18446744073709551615 ∧ y' ≤ 18446744073709551615 ∧ Hid (Nat.gcd x' y' = G) ∧ wi = wo.drewN k) (fun _ t _ => (intOf t).toNat)
        case atStart => exact ⟨x, y, 0, rfl, rfl, by omega, by omega, hG, rfl⟩
        case round =>
          obtain ⟨x', y', k, rfl, rfl, hx', hy', hg', rfl⟩ := hrel
          rcases Nat.eq_zero_or_pos y' with rfl | hp
          · have HG2 := Lib.hid (show x' = G by rw [← hg'.out, Nat.gcd_zero_right])
            go_wp2_with fail
            refine (FromUint64_c x' _ (by have hB : Ba * Ba = 18446744073709551616 := by decide
                                          omega)).mono ?_
            rintro e w1 ⟨A1, c1, rfl, r1, b1⟩
            have hbk := below_drewN hbel k
            have h1 := r1.mono (lo' := w.heap.size) hbk.size
            have b01 := hbk.trans (b1.mono hbk.size)
            clear r1 b1 hbk
            go_wp2
            go_ret
            rw [← HG2.out]
            exact ⟨A1, c1, rfl, h1, b01⟩
          · have hne : ((y' : Int) != 0) = true := by rw [bne_iff_ne]; omega
            have hne2 : ((y' : Int) == 0) = false := by rw [beq_eq_false_iff_ne]; omega
            have e3 : (x' : Int).tmod (y' : Int) = ((x' % y' : Nat) : Int) := by rw [Int.tmod_eq_emod_of_nonneg (by omega)]; rfl
            have hm := Nat.mod_lt x' hp
            have hgm : Hid (Nat.gcd y' (x' % y') = G) := Lib.hid (by rw [gcd_mod]; exact hg'.out)
            obtain ⟨T, eT⟩ : ∃ T, x' % y' = T := ⟨_, rfl⟩
            rw [eT] at e3 hm hgm
            clear eT
            go_wp2
            go_quiet (fail)
            go_wp2
            go_roundw
            case rel => exact ⟨y', T, _, rfl, rfl, hy', by omega, hgm, World.drewN_drewN _ _ _⟩
            case measure => simp [intOf]; try omega
      · have l3 : 3 ≤ (limbs x).length := by
          have : ¬ (limbs x).length ≤ 2 := fun h => by have := limbs_two.1 h; omega
          omega
        obtain ⟨m, em⟩ : ∃ m, (limbs x).length = m + 3 := ⟨(limbs x).length - 3, by omega⟩
        have htop := limbs_last (show x ≠ 0 by omega)
        rw [em, show m + 3 - 1 = m + 2 from rfl] at htop
        obtain ⟨s, es⟩ : ∃ s, 32 - nb ((limbs x)[m + 2]?.getD 0) = s := ⟨_, rfl⟩
        obtain ⟨D, eD⟩ : ∃ D, Ba ^ m * 2 ^ (32 - s) = D := ⟨_, rfl⟩
        have hDp : 0 < D := by rw [← eD]; exact Nat.mul_pos (Nat.pow_pos Ba_pos) (Nat.pow_pos (by decide))
        have hc := leading_c A B (limbs x) (limbs y) c d m s D wr hx hy em (by omega) htop (by rw [val_limbs, val_limbs]; exact hyx) (by omega) es eD
        rw [val_limbs, val_limbs] at hc
        have HC := Lib.hid hc
        have EM := Lib.hid em
        have hm : m + 3 ≤ K := by omega
        have l3' : ¬ ((m : Int) + 3 ≤ 2) := by omega
        rw [em] at lyx ⊢
        clear htop es eD hc em l3 hxK
        go_wp2_with fail
        refine HC.out.mono ?_
        rintro e w1 ⟨xx, yy, u0, u1, u2, v0, v1, v2, ev, hLI, q0, q1, q2, q3, rfl, b1⟩
        have HLI := Lib.hid hLI
        clear hLI HC
        by_cases hv0 : v0 = 0
        · subst hv0
          go_wp2_with fail
          rw [← EM.out]
          have b0 := bel1 w1 (.cells #[.int .u64 (u0 : Int), .int .u64 (u1 : Int), .int .u64 0, .int .u64 (v1 : Int), .bool ev] 91)
          refine (DivMod_c A B (limbs x) (limbs y) c d _ ((hx.below b1).below b0) ((hy.below b1).below b0) (by rw [EM.out]; omega) (by rw [val_limbs]; omega)).mono ?_
          rintro e w2 ⟨A1, c1, A2, c2, rfl, r1, r2, b2⟩
          rw [val_limbs, val_limbs] at r1 r2 ⊢
          have b13 : Below wr.heap.size wr w2 := (b1.trans (b0.mono b1.size)).trans (b2.mono (Nat.le_trans b1.size b0.size))
          have hy2 := hy.below b13
          have h2 := r2.lim
          have hend := hbel.trans (b13.mono hbel.size)
          have hmod := Nat.mod_lt x hy0
          have lyK : (limbs y).length ≤ K := by omega
          clear r1 r2 b0 b1 b2 b13
          go_wp2_with fail
          go_roundg (y + x % y)
          case measure => exact Nat.lt_of_lt_of_le (Nat.add_lt_add_left hmod y) (Nat.add_le_add_right hyx y)
          case rel => exact ⟨B, A2, d, c2, y, x % y, rfl, rfl, rfl, hy2, h2, Nat.le_of_lt hmod, lyK, Lib.hid (by rw [gcd_mod]; exact hG.out), hend⟩
        · have hne : ((v0 : Int) == 0) = false := by rw [beq_eq_false_iff_ne]; omega
          cases ev
          · obtain ⟨a', ea'⟩ : ∃ a', y * v0 - x * u0 = a' := ⟨_, rfl⟩
            obtain ⟨b', eb'⟩ : ∃ b', x * u1 - y * v1 = b' := ⟨_, rfl⟩
            have hfin := HLI.out.finish (a := a') (b := b') hDp hv0 (by simp only [Bool.false_eq_true, if_false]; exact ea'.symm) (by simp only [Bool.false_eq_true, if_false]; exact eb'.symm)
            simp only [Bool.false_eq_true, if_false] at hfin
            obtain ⟨f1, f2, f3, f4, f5⟩ := hfin
            have la' : (limbs a').length ≤ K := Nat.le_trans (limbs_mono (show a' ≤ x by omega)) (by rw [EM.out]; exact hm)
            have Ea' := Lib.hid ea'
            have Eb' := Lib.hid eb'
            have F1 := Lib.hid f1
            have F2 := Lib.hid f2
            have F5 := Lib.hid f5
            clear ea' eb' f1 f2 f5
            have tk0 : True := trivial
            have tk1 : True := trivial
            have hzK : (limbs x).length ≤ 70368744177660 := by rw [EM.out]; omega
            have hyK : (limbs y).length ≤ 70368744177660 := by omega
            go_wp2_with fail
            rw [← EM.out]
            obtain ⟨W, hW, hbW, s0, s1, s2, s3⟩ := cof_box w1 u0 u1 v0 v1 false
            rw [hW]
            clear hW
            have jW : w1.heap.size < W.heap.size := by have := s0; exact World.block_lt_of_cell? W _ this
            replace hx := (hx.below b1).below hbW
            replace hy := (hy.below b1).below hbW
            have hbelW : Below w.heap.size w W := (hbel.trans (b1.mono hbel.size)).trans (hbW.mono (Nat.le_trans hbel.size b1.size))
            have hBel : Below W.heap.size W W.drew := (Below.refl _ _).drew
            clear hbel b1 hbW
            go_region_held3 (fun w' => w'.cell? ⟨w1.heap.size, 0, none⟩ = some (.int .u64 (u0 : Int)) ∧ w'.cell? ⟨w1.heap.size, 1, none⟩ = some (.int .u64 (u1 : Int)) ∧ w'.cell? ⟨w1.heap.size, 2, none⟩ = some (.int .u64 (v0 : Int)) ∧ w'.cell? ⟨w1.heap.size, 3, none⟩ = some (.int .u64 (v1 : Int)))
              (first | exact ⟨cellB hBel jW s0, cellB hBel jW s1, cellB hBel jW s2, cellB hBel jW s3⟩ | go_keep)
              (first
                | (go_at_call 103; have _t := tk0; clear tk0; refine (combine_c B A (limbs y) (limbs x) d c v0 u0 a' _ ?_ ?_ ?_ ?_ q2 q0 ?_ ?_).mono ?_; exact hy.below hBel; exact hx.below hBel; omega; omega; (rw [val_limbs, val_limbs]; exact F1.out); (rw [val_limbs, val_limbs]; exact Ea'.out); rintro e w6 ⟨A6, c6, rfl, r6, b6⟩; replace hBel := hBel.trans (b6.mono hBel.size))
                | (go_at_call 103; have _t := tk1; clear tk1; refine (combine_c A B (limbs x) (limbs y) c d u1 v1 b' _ ?_ ?_ ?_ ?_ q1 q3 ?_ ?_).mono ?_; exact hx.below hBel; exact hy.below hBel; omega; omega; (rw [val_limbs, val_limbs]; exact F2.out); (rw [val_limbs, val_limbs]; exact Eb'.out); rintro e w7 ⟨A7, c7, rfl, r7, b7⟩; replace hBel := hBel.trans (b7.mono hBel.size)))
            rename_i hHeld
            clear hHeld
            have h6 := r6.lim.below b7
            have h7 := r7.lim
            have hend : Below w.heap.size w w7 := hbelW.trans (hBel.mono hbelW.size)
            clear r6 r7 b6 b7 hBel
            go_wp2_with fail
            go_roundg (a' + b')
            case measure => omega
            case rel => exact ⟨A6, A7, c6, c7, a', b', rfl, rfl, rfl, h6, h7, f3, la', Lib.hid (by rw [F5.out]; exact hG.out), hend⟩
          · obtain ⟨a', ea'⟩ : ∃ a', x * u0 - y * v0 = a' := ⟨_, rfl⟩
            obtain ⟨b', eb'⟩ : ∃ b', y * v1 - x * u1 = b' := ⟨_, rfl⟩
            have hfin := HLI.out.finish (a := a') (b := b') hDp hv0 (by simp only [if_true]; exact ea'.symm) (by simp only [if_true]; exact eb'.symm)
            simp only [if_true] at hfin
            obtain ⟨f1, f2, f3, f4, f5⟩ := hfin
            have la' : (limbs a').length ≤ K := Nat.le_trans (limbs_mono (show a' ≤ x by omega)) (by rw [EM.out]; exact hm)
            have Ea' := Lib.hid ea'
            have Eb' := Lib.hid eb'
            have F1 := Lib.hid f1
            have F2 := Lib.hid f2
            have F5 := Lib.hid f5
            clear ea' eb' f1 f2 f5
            have tk0 : True := trivial
            have tk1 : True := trivial
            have hzK : (limbs x).length ≤ 70368744177660 := by rw [EM.out]; omega
            have hyK : (limbs y).length ≤ 70368744177660 := by omega
            go_wp2_with fail
            rw [← EM.out]
            obtain ⟨W, hW, hbW, s0, s1, s2, s3⟩ := cof_box w1 u0 u1 v0 v1 true
            rw [hW]
            clear hW
            have jW : w1.heap.size < W.heap.size := by have := s0; exact World.block_lt_of_cell? W _ this
            replace hx := (hx.below b1).below hbW
            replace hy := (hy.below b1).below hbW
            have hbelW : Below w.heap.size w W := (hbel.trans (b1.mono hbel.size)).trans (hbW.mono (Nat.le_trans hbel.size b1.size))
            have hBel : Below W.heap.size W W.drew := (Below.refl _ _).drew
            clear hbel b1 hbW
            go_region_held3 (fun w' => w'.cell? ⟨w1.heap.size, 0, none⟩ = some (.int .u64 (u0 : Int)) ∧ w'.cell? ⟨w1.heap.size, 1, none⟩ = some (.int .u64 (u1 : Int)) ∧ w'.cell? ⟨w1.heap.size, 2, none⟩ = some (.int .u64 (v0 : Int)) ∧ w'.cell? ⟨w1.heap.size, 3, none⟩ = some (.int .u64 (v1 : Int)))
              (first | exact ⟨cellB hBel jW s0, cellB hBel jW s1, cellB hBel jW s2, cellB hBel jW s3⟩ | go_keep)
              (first
                | (go_at_call 103; have _t := tk0; clear tk0; refine (combine_c A B (limbs x) (limbs y) c d u0 v0 a' _ ?_ ?_ ?_ ?_ q0 q2 ?_ ?_).mono ?_; exact hx.below hBel; exact hy.below hBel; omega; omega; (rw [val_limbs, val_limbs]; exact F1.out); (rw [val_limbs, val_limbs]; exact Ea'.out); rintro e w6 ⟨A6, c6, rfl, r6, b6⟩; replace hBel := hBel.trans (b6.mono hBel.size))
                | (go_at_call 103; have _t := tk1; clear tk1; refine (combine_c B A (limbs y) (limbs x) d c v1 u1 b' _ ?_ ?_ ?_ ?_ q3 q1 ?_ ?_).mono ?_; exact hy.below hBel; exact hx.below hBel; omega; omega; (rw [val_limbs, val_limbs]; exact F2.out); (rw [val_limbs, val_limbs]; exact Eb'.out); rintro e w7 ⟨A7, c7, rfl, r7, b7⟩; replace hBel := hBel.trans (b7.mono hBel.size)))
            rename_i hHeld
            clear hHeld
            have h6 := r6.lim.below b7
            have h7 := r7.lim
            have hend : Below w.heap.size w w7 := hbelW.trans (hBel.mono hbelW.size)
            clear r6 r7 b6 b7 hBel
            go_wp2_with fail
            go_roundg (a' + b')
            case measure => omega
            case rel => exact ⟨A6, A7, c6, c7, a', b', rfl, rfl, rfl, h6, h7, f3, la', Lib.hid (by rw [F5.out]; exact hG.out), hend⟩

set_option maxHeartbeats 4000000 in
set_option maxRecDepth 100000 in
theorem GCD_lt (A B : Option Addr) (xs ys : List Nat) (c d K : Nat) (w : World) (ha : Lim w A c xs) (hb : Lim w B d ys) (hK : (limbs (val ys)).length ≤ K) (hs : K ≤ 70368744177660) (hge : val xs < val ys) :
    Calls Try.prog 82 #[.slice A xs.length c, .slice B ys.length d] w (RetNat w (Nat.gcd (val xs) (val ys))) := by
  have EC := Lib.hid (show cmpN (val (limbs (val xs))) (val (limbs (val ys))) = -1 by rw [val_limbs, val_limbs]; exact cmpN_lt hge)
  obtain ⟨G, eG⟩ : ∃ G, Nat.gcd (val xs) (val ys) = G := ⟨_, rfl⟩
  rw [eG]
  have EG := Lib.hid eG
  clear eG
  go_enter Try.func82, Try.ntmps82
  go_wp2_with fail
  refine (cut_c _ _ _ _ ha).mono ?_
  rintro e w' ⟨rfl, rfl⟩
  go_wp2_with fail
  refine (cut_c _ _ _ _ hb).mono ?_
  rintro e w' ⟨rfl, rfl⟩
  go_wp2_with fail
  refine (Compare_c _ _ _ _ _ _ _ ha.cut hb.cut).mono ?_
  rintro e w' ⟨rfl, n, rfl⟩
  rw [EC.out]
  have hst : GR K G w (val ys + val xs) (.slice B (limbs (val ys)).length d) (.slice A (limbs (val xs)).length c) (w.drewN n) := ⟨B, A, d, c, val ys, val xs, rfl, rfl, rfl, hb.cut.drewN n, ha.cut.drewN n, Nat.le_of_lt hge, hK, Lib.hid (by rw [Nat.gcd_comm]; exact EG.out), below_drewN (Below.refl _ _) n⟩
  clear ha hb EC
  go_wp2_with fail
  go_loopg [0, 1] (val ys + val xs) (fun k a b wr => GR K G w k a b wr)
  case atStart => exact hst
  case round =>
    clear hst
    obtain ⟨A, B, c, d, x, y, rfl, rfl, rfl, hx, hy, hyx, hxK, hG, hbel⟩ := hrel
    have lyx := limbs_mono hyx
    rcases Nat.eq_zero_or_pos y with rfl | hy0
    · have HE := Lib.hid (show x = G by rw [← hG.out, Nat.gcd_zero_right])
      rw [limbs_zero]
      go_wp2_with fail
      refine (Trim_c A (limbs x) c _ hx (by omega)).mono ?_
      rintro e w1 ⟨A1, c1, rfl, r1, b1⟩
      rw [val_limbs] at r1 ⊢
      have h1 := r1.mono (lo' := w.heap.size) hbel.size
      have b01 := hbel.trans (b1.mono hbel.size)
      clear r1 b1
      go_wp2
      go_ret
      rw [← HE.out]
      exact ⟨A1, c1, rfl, h1, b01⟩
    · have lp : 0 < (limbs y).length := List.length_pos_iff.2 (fun e => by rw [limbs_eq_nil] at e; omega)
      rcases Nat.lt_or_ge x (Ba * Ba) with hsm | hbig
      · have l2 := limbs_len2 hsm
        have l2' : ((limbs x).length : Int) ≤ 2 := by omega
        go_wp2_with fail
        refine (word_c A (limbs x) c _ hx l2).mono ?_
        rintro e w' ⟨rfl, rfl⟩
        go_wp2_with fail
        refine (word_c B (limbs y) d _ hy (by omega)).mono ?_
        rintro e w' ⟨rfl, rfl⟩
        rw [val_limbs, val_limbs]
        have hBB : Ba * Ba = 18446744073709551616 := by decide
        rw [hBB] at hsm
        clear hBB
        obtain ⟨wo, rfl⟩ : ∃ wo : World, wo = wr := ⟨_, rfl⟩
        go_wp2_with fail
        go_loopw [5, 6] (fun s t wi => ∃ (x' y' k : Nat), s = .int .u64 x' ∧ t = .int .u64 y' ∧ x' ≤ 18446744073709551615 ∧ y' ≤ 18446744073709551615 ∧ Hid (Nat.gcd x' y' = G) ∧ wi = wo.drewN k) (fun _ t _ => (intOf t).toNat)
        case atStart => exact ⟨x, y, 0, rfl, rfl, by omega, by omega, hG, rfl⟩
        case round =>
          obtain ⟨x', y', k, rfl, rfl, hx', hy', hg', rfl⟩ := hrel
          rcases Nat.eq_zero_or_pos y' with rfl | hp
          · have HG2 := Lib.hid (show x' = G by rw [← hg'.out, Nat.gcd_zero_right])
            go_wp2_with fail
            refine (FromUint64_c x' _ (by have hB : Ba * Ba = 18446744073709551616 := by decide
                                          omega)).mono ?_
            rintro e w1 ⟨A1, c1, rfl, r1, b1⟩
            have hbk := below_drewN hbel k
            have h1 := r1.mono (lo' := w.heap.size) hbk.size
            have b01 := hbk.trans (b1.mono hbk.size)
            clear r1 b1 hbk
            go_wp2
            go_ret
            rw [← HG2.out]
            exact ⟨A1, c1, rfl, h1, b01⟩
          · have hne : ((y' : Int) != 0) = true := by rw [bne_iff_ne]; omega
            have hne2 : ((y' : Int) == 0) = false := by rw [beq_eq_false_iff_ne]; omega
            have e3 : (x' : Int).tmod (y' : Int) = ((x' % y' : Nat) : Int) := by rw [Int.tmod_eq_emod_of_nonneg (by omega)]; rfl
            have hm := Nat.mod_lt x' hp
            have hgm : Hid (Nat.gcd y' (x' % y') = G) := Lib.hid (by rw [gcd_mod]; exact hg'.out)
            obtain ⟨T, eT⟩ : ∃ T, x' % y' = T := ⟨_, rfl⟩
            rw [eT] at e3 hm hgm
            clear eT
            go_wp2
            go_quiet (fail)
            go_wp2
            go_roundw
            case rel => exact ⟨y', T, _, rfl, rfl, hy', by omega, hgm, World.drewN_drewN _ _ _⟩
            case measure => simp [intOf]; try omega
      · have l3 : 3 ≤ (limbs x).length := by
          have : ¬ (limbs x).length ≤ 2 := fun h => by have := limbs_two.1 h; omega
          omega
        obtain ⟨m, em⟩ : ∃ m, (limbs x).length = m + 3 := ⟨(limbs x).length - 3, by omega⟩
        have htop := limbs_last (show x ≠ 0 by omega)
        rw [em, show m + 3 - 1 = m + 2 from rfl] at htop
        obtain ⟨s, es⟩ : ∃ s, 32 - nb ((limbs x)[m + 2]?.getD 0) = s := ⟨_, rfl⟩
        obtain ⟨D, eD⟩ : ∃ D, Ba ^ m * 2 ^ (32 - s) = D := ⟨_, rfl⟩
        have hDp : 0 < D := by rw [← eD]; exact Nat.mul_pos (Nat.pow_pos Ba_pos) (Nat.pow_pos (by decide))
        have hc := leading_c A B (limbs x) (limbs y) c d m s D wr hx hy em (by omega) htop (by rw [val_limbs, val_limbs]; exact hyx) (by omega) es eD
        rw [val_limbs, val_limbs] at hc
        have HC := Lib.hid hc
        have EM := Lib.hid em
        have hm : m + 3 ≤ K := by omega
        have l3' : ¬ ((m : Int) + 3 ≤ 2) := by omega
        rw [em] at lyx ⊢
        clear htop es eD hc em l3 hxK
        go_wp2_with fail
        refine HC.out.mono ?_
        rintro e w1 ⟨xx, yy, u0, u1, u2, v0, v1, v2, ev, hLI, q0, q1, q2, q3, rfl, b1⟩
        have HLI := Lib.hid hLI
        clear hLI HC
        by_cases hv0 : v0 = 0
        · subst hv0
          go_wp2_with fail
          rw [← EM.out]
          have b0 := bel1 w1 (.cells #[.int .u64 (u0 : Int), .int .u64 (u1 : Int), .int .u64 0, .int .u64 (v1 : Int), .bool ev] 91)
          refine (DivMod_c A B (limbs x) (limbs y) c d _ ((hx.below b1).below b0) ((hy.below b1).below b0) (by rw [EM.out]; omega) (by rw [val_limbs]; omega)).mono ?_
          rintro e w2 ⟨A1, c1, A2, c2, rfl, r1, r2, b2⟩
          rw [val_limbs, val_limbs] at r1 r2 ⊢
          have b13 : Below wr.heap.size wr w2 := (b1.trans (b0.mono b1.size)).trans (b2.mono (Nat.le_trans b1.size b0.size))
          have hy2 := hy.below b13
          have h2 := r2.lim
          have hend := hbel.trans (b13.mono hbel.size)
          have hmod := Nat.mod_lt x hy0
          have lyK : (limbs y).length ≤ K := by omega
          clear r1 r2 b0 b1 b2 b13
          go_wp2_with fail
          go_roundg (y + x % y)
          case measure => exact Nat.lt_of_lt_of_le (Nat.add_lt_add_left hmod y) (Nat.add_le_add_right hyx y)
          case rel => exact ⟨B, A2, d, c2, y, x % y, rfl, rfl, rfl, hy2, h2, Nat.le_of_lt hmod, lyK, Lib.hid (by rw [gcd_mod]; exact hG.out), hend⟩
        · have hne : ((v0 : Int) == 0) = false := by rw [beq_eq_false_iff_ne]; omega
          cases ev
          · obtain ⟨a', ea'⟩ : ∃ a', y * v0 - x * u0 = a' := ⟨_, rfl⟩
            obtain ⟨b', eb'⟩ : ∃ b', x * u1 - y * v1 = b' := ⟨_, rfl⟩
            have hfin := HLI.out.finish (a := a') (b := b') hDp hv0 (by simp only [Bool.false_eq_true, if_false]; exact ea'.symm) (by simp only [Bool.false_eq_true, if_false]; exact eb'.symm)
            simp only [Bool.false_eq_true, if_false] at hfin
            obtain ⟨f1, f2, f3, f4, f5⟩ := hfin
            have la' : (limbs a').length ≤ K := Nat.le_trans (limbs_mono (show a' ≤ x by omega)) (by rw [EM.out]; exact hm)
            have Ea' := Lib.hid ea'
            have Eb' := Lib.hid eb'
            have F1 := Lib.hid f1
            have F2 := Lib.hid f2
            have F5 := Lib.hid f5
            clear ea' eb' f1 f2 f5
            have tk0 : True := trivial
            have tk1 : True := trivial
            have hzK : (limbs x).length ≤ 70368744177660 := by rw [EM.out]; omega
            have hyK : (limbs y).length ≤ 70368744177660 := by omega
            go_wp2_with fail
            rw [← EM.out]
            obtain ⟨W, hW, hbW, s0, s1, s2, s3⟩ := cof_box w1 u0 u1 v0 v1 false
            rw [hW]
            clear hW
            have jW : w1.heap.size < W.heap.size := by have := s0; exact World.block_lt_of_cell? W _ this
            replace hx := (hx.below b1).below hbW
            replace hy := (hy.below b1).below hbW
            have hbelW : Below w.heap.size w W := (hbel.trans (b1.mono hbel.size)).trans (hbW.mono (Nat.le_trans hbel.size b1.size))
            have hBel : Below W.heap.size W W.drew := (Below.refl _ _).drew
            clear hbel b1 hbW
            go_region_held3 (fun w' => w'.cell? ⟨w1.heap.size, 0, none⟩ = some (.int .u64 (u0 : Int)) ∧ w'.cell? ⟨w1.heap.size, 1, none⟩ = some (.int .u64 (u1 : Int)) ∧ w'.cell? ⟨w1.heap.size, 2, none⟩ = some (.int .u64 (v0 : Int)) ∧ w'.cell? ⟨w1.heap.size, 3, none⟩ = some (.int .u64 (v1 : Int)))
              (first | exact ⟨cellB hBel jW s0, cellB hBel jW s1, cellB hBel jW s2, cellB hBel jW s3⟩ | go_keep)
              (first
                | (go_at_call 103; have _t := tk0; clear tk0; refine (combine_c B A (limbs y) (limbs x) d c v0 u0 a' _ ?_ ?_ ?_ ?_ q2 q0 ?_ ?_).mono ?_; exact hy.below hBel; exact hx.below hBel; omega; omega; (rw [val_limbs, val_limbs]; exact F1.out); (rw [val_limbs, val_limbs]; exact Ea'.out); rintro e w6 ⟨A6, c6, rfl, r6, b6⟩; replace hBel := hBel.trans (b6.mono hBel.size))
                | (go_at_call 103; have _t := tk1; clear tk1; refine (combine_c A B (limbs x) (limbs y) c d u1 v1 b' _ ?_ ?_ ?_ ?_ q1 q3 ?_ ?_).mono ?_; exact hx.below hBel; exact hy.below hBel; omega; omega; (rw [val_limbs, val_limbs]; exact F2.out); (rw [val_limbs, val_limbs]; exact Eb'.out); rintro e w7 ⟨A7, c7, rfl, r7, b7⟩; replace hBel := hBel.trans (b7.mono hBel.size)))
            rename_i hHeld
            clear hHeld
            have h6 := r6.lim.below b7
            have h7 := r7.lim
            have hend : Below w.heap.size w w7 := hbelW.trans (hBel.mono hbelW.size)
            clear r6 r7 b6 b7 hBel
            go_wp2_with fail
            go_roundg (a' + b')
            case measure => omega
            case rel => exact ⟨A6, A7, c6, c7, a', b', rfl, rfl, rfl, h6, h7, f3, la', Lib.hid (by rw [F5.out]; exact hG.out), hend⟩
          · obtain ⟨a', ea'⟩ : ∃ a', x * u0 - y * v0 = a' := ⟨_, rfl⟩
            obtain ⟨b', eb'⟩ : ∃ b', y * v1 - x * u1 = b' := ⟨_, rfl⟩
            have hfin := HLI.out.finish (a := a') (b := b') hDp hv0 (by simp only [if_true]; exact ea'.symm) (by simp only [if_true]; exact eb'.symm)
            simp only [if_true] at hfin
            obtain ⟨f1, f2, f3, f4, f5⟩ := hfin
            have la' : (limbs a').length ≤ K := Nat.le_trans (limbs_mono (show a' ≤ x by omega)) (by rw [EM.out]; exact hm)
            have Ea' := Lib.hid ea'
            have Eb' := Lib.hid eb'
            have F1 := Lib.hid f1
            have F2 := Lib.hid f2
            have F5 := Lib.hid f5
            clear ea' eb' f1 f2 f5
            have tk0 : True := trivial
            have tk1 : True := trivial
            have hzK : (limbs x).length ≤ 70368744177660 := by rw [EM.out]; omega
            have hyK : (limbs y).length ≤ 70368744177660 := by omega
            go_wp2_with fail
            rw [← EM.out]
            obtain ⟨W, hW, hbW, s0, s1, s2, s3⟩ := cof_box w1 u0 u1 v0 v1 true
            rw [hW]
            clear hW
            have jW : w1.heap.size < W.heap.size := by have := s0; exact World.block_lt_of_cell? W _ this
            replace hx := (hx.below b1).below hbW
            replace hy := (hy.below b1).below hbW
            have hbelW : Below w.heap.size w W := (hbel.trans (b1.mono hbel.size)).trans (hbW.mono (Nat.le_trans hbel.size b1.size))
            have hBel : Below W.heap.size W W.drew := (Below.refl _ _).drew
            clear hbel b1 hbW
            go_region_held3 (fun w' => w'.cell? ⟨w1.heap.size, 0, none⟩ = some (.int .u64 (u0 : Int)) ∧ w'.cell? ⟨w1.heap.size, 1, none⟩ = some (.int .u64 (u1 : Int)) ∧ w'.cell? ⟨w1.heap.size, 2, none⟩ = some (.int .u64 (v0 : Int)) ∧ w'.cell? ⟨w1.heap.size, 3, none⟩ = some (.int .u64 (v1 : Int)))
              (first | exact ⟨cellB hBel jW s0, cellB hBel jW s1, cellB hBel jW s2, cellB hBel jW s3⟩ | go_keep)
              (first
                | (go_at_call 103; have _t := tk0; clear tk0; refine (combine_c A B (limbs x) (limbs y) c d u0 v0 a' _ ?_ ?_ ?_ ?_ q0 q2 ?_ ?_).mono ?_; exact hx.below hBel; exact hy.below hBel; omega; omega; (rw [val_limbs, val_limbs]; exact F1.out); (rw [val_limbs, val_limbs]; exact Ea'.out); rintro e w6 ⟨A6, c6, rfl, r6, b6⟩; replace hBel := hBel.trans (b6.mono hBel.size))
                | (go_at_call 103; have _t := tk1; clear tk1; refine (combine_c B A (limbs y) (limbs x) d c v1 u1 b' _ ?_ ?_ ?_ ?_ q3 q1 ?_ ?_).mono ?_; exact hy.below hBel; exact hx.below hBel; omega; omega; (rw [val_limbs, val_limbs]; exact F2.out); (rw [val_limbs, val_limbs]; exact Eb'.out); rintro e w7 ⟨A7, c7, rfl, r7, b7⟩; replace hBel := hBel.trans (b7.mono hBel.size)))
            rename_i hHeld
            clear hHeld
            have h6 := r6.lim.below b7
            have h7 := r7.lim
            have hend : Below w.heap.size w w7 := hbelW.trans (hBel.mono hbelW.size)
            clear r6 r7 b6 b7 hBel
            go_wp2_with fail
            go_roundg (a' + b')
            case measure => omega
            case rel => exact ⟨A6, A7, c6, c7, a', b', rfl, rfl, rfl, h6, h7, f3, la', Lib.hid (by rw [F5.out]; exact hG.out), hend⟩

/-- the greatest common divisor -/
theorem GCD_c (A B : Option Addr) (xs ys : List Nat) (c d : Nat) (w : World) (ha : Lim w A c xs) (hb : Lim w B d ys) (hs : xs.length ≤ 70368744177660) (ht : ys.length ≤ 70368744177660) :
    Calls Try.prog 82 #[.slice A xs.length c, .slice B ys.length d] w (RetNat w (Nat.gcd (val xs) (val ys))) := by
  rcases Nat.lt_or_ge (val xs) (val ys) with h | h
  · exact GCD_lt A B xs ys c d ys.length w ha hb (limbs_length_le hb.lb) ht h
  · exact GCD_ge A B xs ys c d xs.length w ha hb (limbs_length_le ha.lb) hs h
theorem GCD_n (A B : Option Addr) (xs ys : List Nat) (c d : Nat) (w : World) (m n s K L : Nat) (ha : Lim w A c xs) (hb : Lim w B d ys) (hs : xs.length ≤ K) (ht : ys.length ≤ L) (hm : val xs = m) (hn : val ys = n) (h : Nat.gcd m n = s) (hK : K ≤ 70368744177660) (hL : L ≤ 70368744177660) :
    Calls Try.prog 82 #[.slice A xs.length c, .slice B ys.length d] w (RetNat w s) := by
  subst hm hn h; exact GCD_c A B xs ys c d w ha hb (by omega) (by omega)

end Go.Proofs.Ytdcofnjekdkifaa
