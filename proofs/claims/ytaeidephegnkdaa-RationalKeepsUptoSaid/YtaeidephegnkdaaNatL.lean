/- Contracts of package natural: the leading bits of two numbers. -/
import Derived.Test.YtaeidephegnkdaaNatP
namespace Gm
/-- the window of 64 bits -/
theorem win_val {xs : List Nat} {m s : Nat} (h : Lb xs) (hl : xs.length ≤ m + 3) (hs : s ≤ 32) :
    val xs / (Ba ^ m * 2 ^ (32 - s)) = (xs[m + 2]?.getD 0 * Ba + xs[m + 1]?.getD 0) * 2 ^ s + xs[m]?.getD 0 / 2 ^ (32 - s) := by
  have hz : ∀ k, m + 3 ≤ k → xs[k]?.getD 0 = 0 := fun k hk => by rw [List.getElem?_eq_none (by omega)]; rfl
  have h3 : val (xs.take (m + 3)) = val xs := val_take_of_zero hz
  rw [val_take_succ', val_take_succ', val_take_succ'] at h3
  have hlow := val_take_lt h m
  rw [← h3, ← Nat.div_div_eq_div_mul]
  generalize xs[m + 2]?.getD 0 = a
  generalize xs[m + 1]?.getD 0 = b
  generalize xs[m]?.getD 0 = c
  have e1 : val (xs.take m) + Ba ^ m * c + Ba ^ (m + 1) * b + Ba ^ (m + 2) * a = val (xs.take m) + Ba ^ m * (c + Ba * (a * Ba + b)) := by
    rw [Nat.pow_succ, Nat.pow_succ]; grind
  rw [e1, Nat.add_mul_div_left _ _ (Nat.pow_pos Ba_pos), Nat.div_eq_of_lt hlow, Nat.zero_add]
  have hp : 2 ^ (32 - s) * 2 ^ s = Ba := by rw [← Nat.pow_add, show 32 - s + s = 32 by omega]; rfl
  have e2 : c + Ba * (a * Ba + b) = c + 2 ^ (32 - s) * ((a * Ba + b) * 2 ^ s) := by rw [← hp]; grind
  rw [e2, Nat.add_mul_div_left _ _ (Nat.pow_pos (by decide)), Nat.add_comm]
end Gm
namespace Go.Proofs.Ytaeidephegnkdaa
open Go.RowKit Gm

set_option maxHeartbeats 1000000 in
theorem limb_c (A : Option Addr) (xs : List Nat) (c i g : Nat) (w : World) (z : Int) (hz : z = (i : Int)) (h : Lim w A c xs) (hg : w.cell? ⟨g, 0, none⟩ = some (.slice A xs.length c)) :
    Calls Try.prog 125 #[.int .i64 z, .pointer (some ⟨g, 0, none⟩)] w fun e w' => e = .returned (.int .u64 ((xs[i]?.getD 0 : Nat) : Int)) ∧ w' = w := by
  subst hz
  by_cases hi : i < xs.length
  · obtain ⟨b, o, rfl, hb, hc⟩ := h.at_ (by omega)
    have hx := hc i hi
    have bx : xs[i]?.getD 0 < 4294967296 := h.lb.get i
    obtain ⟨x, ex⟩ : ∃ x, xs[i]?.getD 0 = x := ⟨_, rfl⟩
    rw [ex] at hx bx ⊢
    clear ex hc h
    have hi2 : (i : Int) < (xs.length : Int) := by omega
    go_enter Try.func125, Try.ntmps125
    go_wp2
    go_ret
    exact ⟨rfl, rfl⟩
  · have ex : xs[i]?.getD 0 = 0 := by rw [List.getElem?_eq_none (by omega)]; rfl
    rw [ex]
    clear ex
    have hi2 : ¬ (i : Int) < (xs.length : Int) := by omega
    go_enter Try.func125, Try.ntmps125
    go_wp2
    go_ret
    exact ⟨rfl, rfl⟩
set_option maxHeartbeats 1000000 in
theorem window_c (A : Option Addr) (xs : List Nat) (c m s : Nat) (w : World) (h : Lim w A c xs) (hl : xs.length ≤ m + 3) (hm : m ≤ 70368744177664) (h32 : s < 32) (hfit : xs[m + 2]?.getD 0 * 2 ^ s < Ba) :
    Calls Try.prog 121 #[.slice A xs.length c, .int .i64 ((m : Int) + 3), .int .i64 (s : Int)] w fun e w' => e = .returned (.int .u64 ((val xs / (Ba ^ m * 2 ^ (32 - s)) : Nat) : Int)) ∧ Below w.heap.size w w' := by
  have hb := bel1 w (.cells #[.slice A xs.length c] 22)
  have hcell : (w.alloc (.cells #[.slice A xs.length c] 22)).cell? ⟨w.heap.size, 0, none⟩ = some (.slice A xs.length c) := by go_simp
  have h2 := h.below hb
  have b2 : xs[m + 2]?.getD 0 < 4294967296 := h.lb.get _
  have b1 : xs[m + 1]?.getD 0 < 4294967296 := h.lb.get _
  have b0 : xs[m]?.getD 0 < 4294967296 := h.lb.get _
  have hwin := win_val h.lb hl (Nat.le_of_lt h32)
  rw [hwin]
  have HC := Lib.hid hcell
  have c2 := fun n => limb_c A xs c (m + 2) w.heap.size ((w.alloc (.cells #[.slice A xs.length c] 22)).drewN n) ((m : Int) + 2) (by omega) (h2.drewN n) hcell
  have c1 := fun n => limb_c A xs c (m + 1) w.heap.size ((w.alloc (.cells #[.slice A xs.length c] 22)).drewN n) ((m : Int) + 1) (by omega) (h2.drewN n) hcell
  have c0 := fun n => limb_c A xs c m w.heap.size ((w.alloc (.cells #[.slice A xs.length c] 22)).drewN n) (m : Int) rfl (h2.drewN n) hcell
  obtain ⟨x2, e2⟩ : ∃ x, xs[m + 2]?.getD 0 = x := ⟨_, rfl⟩
  obtain ⟨x1, e1⟩ : ∃ x, xs[m + 1]?.getD 0 = x := ⟨_, rfl⟩
  obtain ⟨x0, e0⟩ : ∃ x, xs[m]?.getD 0 = x := ⟨_, rfl⟩
  simp only [e2] at c2 b2 hfit ⊢
  simp only [e1] at c1 b1 ⊢
  simp only [e0] at c0 b0 ⊢
  have C2 := Lib.hid c2
  have C1 := Lib.hid c1
  have C0 := Lib.hid c0
  clear hwin e2 e1 e0 c2 c1 c0 hcell HC
  have i1 : IntKind.i64.wrap ((m : Int) + 3 - 1) = (m : Int) + 2 := by rw [IntWalk.i64_in _ (by omega)]; omega
  have i2 : IntKind.i64.wrap ((m : Int) + 3 - 2) = (m : Int) + 1 := by rw [IntWalk.i64_in _ (by omega)]; omega
  have i3 : IntKind.i64.wrap ((m : Int) + 3 - 3) = (m : Int) := by rw [IntWalk.i64_in _ (by omega)]; omega
  have i4 : IntKind.u64.wrap ((x2 : Int) * 4294967296) = (x2 : Int) * 4294967296 := by rw [IntKind.wrap_u64]; omega
  have hor := or_hi' x1 x2 b1 b2
  obtain ⟨t, et⟩ : ∃ t, 32 - s = t := ⟨_, rfl⟩
  have i5 : IntKind.i64.wrap (32 - (s : Int)) = (t : Int) := by rw [IntWalk.i64_in _ (by omega)]; omega
  have hp : 2 ^ t * 2 ^ s = Ba := by rw [← Nat.pow_add, show t + s = 32 by omega]; rfl
  have hlow : x0 / 2 ^ t < 2 ^ s := Nat.div_lt_of_lt_mul (by rw [hp]; exact b0)
  have hPb : (x1 + 4294967296 * x2) * 2 ^ s < 18446744073709551616 := by
    have h1 : x1 + 4294967296 * x2 < 4294967296 * (x2 + 1) := by omega
    have h2 : x2 * 2 ^ s + 2 ^ s ≤ Ba := by
      have h3 : x2 * 2 ^ s < 2 ^ t * 2 ^ s := by rw [hp]; exact hfit
      have h4 : x2 < 2 ^ t := Nat.lt_of_mul_lt_mul_right h3
      have h5 : (x2 + 1) * 2 ^ s ≤ 2 ^ t * 2 ^ s := Nat.mul_le_mul_right _ h4
      rw [hp, Nat.add_mul] at h5
      omega
    have h6 : (x1 + 4294967296 * x2) * 2 ^ s < 4294967296 * (x2 + 1) * 2 ^ s := Nat.mul_lt_mul_of_pos_right h1 (Nat.pow_pos (by decide))
    have h7 : 4294967296 * (x2 + 1) * 2 ^ s ≤ 4294967296 * 4294967296 := by
      rw [Nat.mul_assoc]; exact Nat.mul_le_mul_left _ (by rw [Nat.add_mul, Nat.one_mul]; exact h2)
    exact Nat.lt_of_lt_of_le h6 h7
  have i6 : IntKind.u64.wrap (((x1 + 4294967296 * x2 : Nat) : Int) * 2 ^ s) = (((x1 + 4294967296 * x2) * 2 ^ s : Nat) : Int) := by
    have e : ((x1 + 4294967296 * x2 : Nat) : Int) * 2 ^ s = (((x1 + 4294967296 * x2) * 2 ^ s : Nat) : Int) := by simp
    rw [e, IntKind.wrap_u64]
    generalize (x1 + 4294967296 * x2) * 2 ^ s = P at *
    omega
  have i7 : (x0 : Int) / 2 ^ t = ((x0 / 2 ^ t : Nat) : Int) := by simp
  have hor2 : bits .or .u64 (((x1 + 4294967296 * x2) * 2 ^ s : Nat) : Int) ((x0 / 2 ^ t : Nat) : Int) = (((x2 * Ba + x1) * 2 ^ s + x0 / 2 ^ t : Nat) : Int) := by
    rw [u64_or_nat _ _ hPb (Nat.lt_of_le_of_lt (Nat.div_le_self _ _) (by omega))]
    have h3 := Nat.shiftLeft_add_eq_or_of_lt hlow (x1 + 4294967296 * x2)
    rw [Nat.shiftLeft_eq] at h3
    rw [← h3, Ba_eq, Nat.mul_comm x2, Nat.add_comm (4294967296 * x2)]
  rw [et]
  obtain ⟨V, eV⟩ : ∃ V, x1 + 4294967296 * x2 = V := ⟨_, rfl⟩
  rw [eV] at hor hor2 i6 hPb
  obtain ⟨P, eP⟩ : ∃ P, V * 2 ^ s = P := ⟨_, rfl⟩
  rw [eP] at hor2 i6 hPb
  obtain ⟨L, eL⟩ : ∃ L, x0 / 2 ^ t = L := ⟨_, rfl⟩
  rw [eL] at hor2 i7 ⊢
  obtain ⟨Z, eZ⟩ : ∃ Z, (x2 * Ba + x1) * 2 ^ s + L = Z := ⟨_, rfl⟩
  rw [eZ] at hor2 ⊢
  have i8 : min t 64 = t := Nat.min_eq_left (by omega)
  clear et eV eP eL eZ hp hlow hPb hfit
  go_enter Try.func121, Try.ntmps121
  go_wp2_with fail
  go_quiet (first
    | (go_at_call 125; with_reducible exact Calls.quiet_of_same (C2.out _))
    | (go_at_call 125; with_reducible exact Calls.quiet_of_same (C1.out _))
    | (go_at_call 125; with_reducible exact Calls.quiet_of_same (C0.out _)))
  go_wp2
  go_ret
  exact ⟨rfl, below_drewN hb _⟩

theorem window_n (A : Option Addr) (xs : List Nat) (c m s : Nat) (w : World) (D Y k : Nat) (z : Int) (hk : xs.length = k) (hz : z = (m : Int) + 3) (hD : Ba ^ m * 2 ^ (32 - s) = D) (hY : val xs / D = Y) (h : Lim w A c xs) (hl : xs.length ≤ m + 3) (hm : m ≤ 70368744177664) (h32 : s < 32) (hfit : xs[m + 2]?.getD 0 * 2 ^ s < Ba) :
    Calls Try.prog 121 #[.slice A k c, .int .i64 z, .int .i64 (s : Int)] w fun e w' => e = .returned (.int .u64 (Y : Int)) ∧ Below w.heap.size w w' := by
  subst hk hz hD hY
  exact window_c A xs c m s w h hl hm h32 hfit

theorem LI_bounds {X Y x y u0 u1 u2 v0 v1 v2 : Nat} {even : Bool} (h : LI X Y x y u0 u1 u2 v0 v1 v2 even) (hy : v2 ≤ y) : u1 + x / y * u2 ≤ Y := by
  have ypos : 0 < y := by have := h.v2pos; omega
  have hu := h.hu
  have hm := Nat.mod_add_div x y
  generalize x / y = q at *
  generalize x % y = r at *
  have e2 : y * (u1 + q * u2) + r * u2 = Y := by rw [← hm] at hu; grind
  have h5 : 1 * (u1 + q * u2) ≤ y * (u1 + q * u2) := Nat.mul_le_mul_right _ ypos
  omega
theorem below_put5 {B N : Nat} {a w : World} (h : Below B a w) (hN : B ≤ N) (v0 v1 v2 v3 v4 : Value) : Below B a (((((w.setCell ⟨N, 0, none⟩ v0).setCell ⟨N, 1, none⟩ v1).setCell ⟨N, 2, none⟩ v2).setCell ⟨N, 3, none⟩ v3).setCell ⟨N, 4, none⟩ v4) :=
  ((((h.setCell hN _).setCell hN _).setCell hN _).setCell hN _).setCell hN _

/-- what the search for cofactors returns -/
def RetCof (X Y : Nat) (w : World) (e : Ending) (w' : World) : Prop :=
  ∃ (x y u0 u1 u2 v0 v1 v2 : Nat) (ev : Bool), LI X Y x y u0 u1 u2 v0 v1 v2 ev ∧ u0 < Ba * Ba ∧ u1 < Ba * Ba ∧ v0 < Ba * Ba ∧ v1 < Ba * Ba ∧
    e = .returned (.agg #[.int .u64 (u0 : Int), .int .u64 (u1 : Int), .int .u64 (v0 : Int), .int .u64 (v1 : Int), .bool ev]) ∧ Below w.heap.size w w'

set_option maxHeartbeats 4000000 in
set_option maxRecDepth 100000 in
theorem leading_c (A B : Option Addr) (us vs : List Nat) (c d m s D : Nat) (w : World) (ha : Lim w A c us) (hb : Lim w B d vs) (hl : us.length = m + 3) (hm : m ≤ 70368744177660) (h0 : us[m + 2]?.getD 0 ≠ 0) (hle : val vs ≤ val us) (hvl : vs.length ≤ m + 3) (hs : 32 - nb (us[m + 2]?.getD 0) = s) (hD : Ba ^ m * 2 ^ (32 - s) = D) :
    Calls Try.prog 110 #[.slice A (m + 3) c, .slice B vs.length d] w (RetCof (val us / D) (val vs / D) w) := by
  obtain ⟨b, o, rfl, hbl, hc⟩ := ha.at_ (by omega)
  have hx := hc (m + 2) (by omega)
  have bx : us[m + 2]?.getD 0 < 4294967296 := ha.lb.get (m + 2)
  obtain ⟨h32, _, hfit⟩ := norm_top (x := us[m + 2]?.getD 0) (s := s) bx h0 hs.symm
  have hfit2 : vs[m + 2]?.getD 0 * 2 ^ s < Ba := by
    have h1 : vs[m + 2]?.getD 0 ≤ us[m + 2]?.getD 0 := by
      rcases Nat.lt_or_ge (us[m + 2]?.getD 0) (vs[m + 2]?.getD 0) with hh | hh
      · exfalso
        have hvl2 : m + 2 < vs.length := by
          rcases Nat.lt_or_ge (m + 2) vs.length with h | h
          · exact h
          · rw [List.getElem?_eq_none h] at hh; simp at hh
        have := cmp_lt (xs := us) (ys := vs) (i := m + 2) ha.lb (by omega) hvl2 (by rw [List.drop_of_length_le (by omega), List.drop_of_length_le (by omega)]) hh
        omega
      · exact hh
    exact Nat.lt_of_le_of_lt (Nat.mul_le_mul_right _ h1) hfit
  obtain ⟨x, ex⟩ : ∃ x, us[m + 2]?.getD 0 = x := ⟨_, rfl⟩
  rw [ex] at hx bx hs
  have hdl : val vs / D ≤ val us / D := Nat.div_le_div_right hle
  obtain ⟨X, eX⟩ : ∃ X, val us / D = X := ⟨_, rfl⟩
  obtain ⟨Y, eY⟩ : ∃ Y, val vs / D = Y := ⟨_, rfl⟩
  have hXb : X < Ba * Ba := by
    rw [← eX]
    apply Nat.div_lt_of_lt_mul
    have h1 := val_lt ha.lb
    rw [hl] at h1
    have hsp := val_split (xs := us) (i := m + 2) (by omega)
    rw [List.drop_of_length_le (show us.length ≤ m + 2 + 1 by omega)] at hsp
    simp only [val, Nat.mul_zero, Nat.add_zero] at hsp
    have hlow := val_take_lt ha.lb (m + 2)
    have hp : 2 ^ (32 - s) * 2 ^ s = Ba := by rw [← Nat.pow_add, show 32 - s + s = 32 by omega]; rfl
    have h4 : us[m + 2]?.getD 0 < 2 ^ (32 - s) := by
      have h3 : us[m + 2]?.getD 0 * 2 ^ s < 2 ^ (32 - s) * 2 ^ s := by rw [hp]; exact hfit
      exact Nat.lt_of_mul_lt_mul_right h3
    rw [hsp, ← hD]
    have h5 : Ba ^ (m + 2) * (us[m + 2]?.getD 0 + 1) ≤ Ba ^ (m + 2) * 2 ^ (32 - s) := Nat.mul_le_mul_left _ h4
    have h6 : Ba ^ (m + 2) * 2 ^ (32 - s) = Ba ^ m * 2 ^ (32 - s) * (Ba * Ba) := by rw [Nat.pow_succ, Nat.pow_succ]; grind
    rw [Nat.mul_add, Nat.mul_one] at h5
    omega
  rw [eX, eY] at hdl ⊢
  have hst := LI.start hdl
  have HST := Lib.hid hst
  have EX := Lib.hid eX
  have EY := Lib.hid eY
  have HF := Lib.hid hfit
  have HF2 := Lib.hid hfit2
  have HS := Lib.hid hs
  have HD := Lib.hid hD
  have HL := Lib.hid hl
  have hBB : Ba * Ba = 18446744073709551616 := by decide
  rw [hBB] at hXb
  clear eX eY hfit hfit2 hs hD hl h0 hle hc ex hst hBB
  go_enter Try.func110, Try.ntmps110
  go_wp2_with fail
  refine (LeadingZeros32_n x _ bx).mono ?_
  rintro e w' ⟨rfl, rfl⟩
  rw [HS.out]
  have b0 := bel1 w (.cells #[.int .u64 0, .int .u64 0, .int .u64 0, .int .u64 0, .bool false] 100)
  have hcell : ∀ w9, Below (w.heap.size + 1) (w.alloc (.cells #[.int .u64 0, .int .u64 0, .int .u64 0, .int .u64 0, .bool false] 100)) w9 →
      (w9.cell? ⟨w.heap.size, 0, none⟩ = some (.int .u64 0) ∧ w9.cell? ⟨w.heap.size, 1, none⟩ = some (.int .u64 0) ∧ w9.cell? ⟨w.heap.size, 2, none⟩ = some (.int .u64 0) ∧ w9.cell? ⟨w.heap.size, 3, none⟩ = some (.int .u64 0) ∧ w9.cell? ⟨w.heap.size, 4, none⟩ = some (.bool false)) ∧
      w9.frozen? ⟨w.heap.size, 0, none⟩ = false ∧ w9.frozen? ⟨w.heap.size, 1, none⟩ = false ∧ w9.frozen? ⟨w.heap.size, 2, none⟩ = false ∧ w9.frozen? ⟨w.heap.size, 3, none⟩ = false ∧ w9.frozen? ⟨w.heap.size, 4, none⟩ = false := fun w9 hb9 => by
    refine ⟨⟨?_, ?_, ?_, ?_, ?_⟩, ?_, ?_, ?_, ?_, ?_⟩
    all_goals first
      | (rw [hb9.cell (by show w.heap.size < w.heap.size + 1; omega)]; go_simp)
      | (rw [hb9.frozen (by show w.heap.size < w.heap.size + 1; omega)]; go_simp)
  have HCELL := Lib.hid hcell
  clear hcell
  go_wp2_with fail
  refine (window_n _ us c m s _ D X (m + 3) _ HL.out rfl HD.out EX.out (ha.below b0) (by rw [HL.out]; exact Nat.le_refl _) (by omega) h32 HF.out).mono ?_
  rintro e w1 ⟨rfl, b1⟩
  have hs1 : w.heap.size + 1 ≤ w1.heap.size := by have := b1.size; simpa using this
  have b01 : Below (w.heap.size + 1) (w.alloc (.cells #[.int .u64 0, .int .u64 0, .int .u64 0, .int .u64 0, .bool false] 100)) w1 := b1.mono (by simp)
  go_wp2_with fail
  refine (window_n _ vs d m s _ D Y vs.length _ rfl rfl HD.out EY.out ((hb.below b0).below b1) hvl (by omega) h32 HF2.out).mono ?_
  rintro e w2 ⟨rfl, b2⟩
  obtain ⟨⟨p0, p1, p2, p3, p4⟩, f0, f1, f2, f3, f4⟩ := HCELL.out w2 (b01.trans (b2.mono hs1))
  have hbel : Below w.heap.size w w2 := (b0.trans (b1.mono (by simp))).trans (b2.mono (by omega))
  clear b0 b1 b2 b01 hs1 HCELL ha hb hx
  go_wp2_with fail
  go_loopw [7, 8, 9, 10, 11, 12, 13, 14, 15] (fun a b c0 c1 c2 d0 d1 d2 ev wr => ∃ (x y u0 u1 u2 v0 v1 v2 n : Nat) (even : Bool), a = .int .u64 x ∧ b = .int .u64 y ∧ c0 = .int .u64 u0 ∧ c1 = .int .u64 u1 ∧ c2 = .int .u64 u2 ∧ d0 = .int .u64 v0 ∧ d1 = .int .u64 v1 ∧ d2 = .int .u64 v2 ∧ ev = .bool even ∧
    (x ≤ 18446744073709551615 ∧ y ≤ x) ∧ (u0 ≤ 18446744073709551615 ∧ u1 ≤ 18446744073709551615 ∧ u2 ≤ 18446744073709551615 ∧ v0 ≤ 18446744073709551615 ∧ v1 ≤ 18446744073709551615 ∧ v2 ≤ 18446744073709551615) ∧ Hid (LI X Y x y u0 u1 u2 v0 v1 v2 even) ∧ wr = w2.drewN n) (fun _ b _ _ _ _ _ _ _ _ => (intOf b).toNat)
  case atStart => exact ⟨X, Y, 0, 1, 0, 0, 0, 1, 0, false, rfl, rfl, rfl, rfl, rfl, rfl, rfl, rfl, rfl, ⟨by omega, hdl⟩, by omega, HST, rfl⟩
  case round =>
    obtain ⟨x, y, u0, u1, u2, v0, v1, v2, n, even, rfl, rfl, rfl, rfl, rfl, rfl, rfl, rfl, rfl, ⟨hx1, hyx⟩, ⟨k1, k2, k3, k4, k5, k6⟩, hLI, rfl⟩ := hrel
    have hfin : RetCof X Y w (.returned (.agg #[.int .u64 (u0 : Int), .int .u64 (u1 : Int), .int .u64 (v0 : Int), .int .u64 (v1 : Int), .bool even])) ((((((w2.drewN n).setCell ⟨w.heap.size, 0, none⟩ (.int .u64 (u0 : Int))).setCell ⟨w.heap.size, 1, none⟩ (.int .u64 (u1 : Int))).setCell ⟨w.heap.size, 2, none⟩ (.int .u64 (v0 : Int))).setCell ⟨w.heap.size, 3, none⟩ (.int .u64 (v1 : Int))).setCell ⟨w.heap.size, 4, none⟩ (.bool even)) := by
      have hBB : Ba * Ba = 18446744073709551616 := by decide
      exact ⟨x, y, u0, u1, u2, v0, v1, v2, even, hLI.out, by omega, by omega, by omega, by omega, rfl, below_put5 (below_drewN hbel n) (Nat.le_refl _) _ _ _ _ _⟩
    have HFIN := Lib.hid hfin
    clear hfin
    by_cases hy : v2 ≤ y
    · obtain ⟨g1, g2, g3, g4, _⟩ := hLI.out.bounds hy
      have g5 := LI_bounds hLI.out hy
      by_cases hxy : v1 + v2 ≤ x - y
      · have hstep := hLI.out.step hy hxy
        have HSTEP := Lib.hid hstep
        have q1 : (x : Int).tdiv (y : Int) = ((x / y : Nat) : Int) := by rw [Int.tdiv_eq_ediv_of_nonneg (by omega)]; rfl
        have q2 : (x : Int).tmod (y : Int) = ((x % y : Nat) : Int) := by rw [Int.tmod_eq_emod_of_nonneg (by omega)]; rfl
        have q1' : (x : Int) / (y : Int) = ((x / y : Nat) : Int) := rfl
        have hmod := Nat.mod_lt x g1
        have hdiv := Nat.div_le_self x y
        obtain ⟨q, eq⟩ : ∃ q, x / y = q := ⟨_, rfl⟩
        obtain ⟨r, er⟩ : ∃ r, x % y = r := ⟨_, rfl⟩
        rw [eq] at q1 q1' HSTEP g4 g5 hdiv
        rw [er] at q2 HSTEP hmod
        have hpe1 : (q : Int) * (u2 : Int) = ((q * u2 : Nat) : Int) := (Int.natCast_mul q u2).symm
        have hpe2 : (q : Int) * (v2 : Int) = ((q * v2 : Nat) : Int) := (Int.natCast_mul q v2).symm
        obtain ⟨M1, eM1⟩ : ∃ M, q * u2 = M := ⟨_, rfl⟩
        obtain ⟨M2, eM2⟩ : ∃ M, q * v2 = M := ⟨_, rfl⟩
        rw [eM1] at hpe1 g5 HSTEP
        rw [eM2] at hpe2 g4 HSTEP
        have hne : ((y : Int) == 0) = false := by rw [beq_eq_false_iff_ne]; omega
        have t1 : (v1 : Int) + v2 ≤ (x : Int) - y := by omega
        have m1 : M1 ≤ 18446744073709551615 := by omega
        have m2 : M2 ≤ 18446744073709551615 := by omega
        have m3 : u1 + M1 ≤ 18446744073709551615 := by omega
        have m4 : v1 + M2 ≤ 18446744073709551615 := by omega
        have m5 : v1 + v2 ≤ 18446744073709551615 := by omega
        clear eq er eM1 eM2 hstep HFIN
        go_wp2
        go_quiet (fail)
        go_wp2
        go_roundw
        case rel => exact ⟨y, r, u1, u2, u1 + M1, v1, v2, v1 + M2, _, !even, rfl, rfl, rfl, rfl, by go_num, rfl, rfl, by go_num, rfl, ⟨by omega, by omega⟩, by omega, HSTEP, rfl⟩
        case measure => simp [intOf]; omega
      · have t1 : decide ((v1 : Int) + v2 ≤ (x : Int) - y) = false := by rw [decide_eq_false_iff_not]; omega
        have m5 : v1 + v2 ≤ 18446744073709551615 := by omega
        clear g1 g2 g4 g5
        go_wp2
        exact bodyPost_ret (v := .agg #[.int .u64 (u0 : Int), .int .u64 (u1 : Int), .int .u64 (v0 : Int), .int .u64 (v1 : Int), .bool even]) (by simp [results, Try.results110, go_sem, p0, p1, p2, p3, p4]) rfl HFIN.out
    · have t1 : decide ((v2 : Int) ≤ (y : Int)) = false := by rw [decide_eq_false_iff_not]; omega
      go_wp2
      exact bodyPost_ret (v := .agg #[.int .u64 (u0 : Int), .int .u64 (u1 : Int), .int .u64 (v0 : Int), .int .u64 (v1 : Int), .bool even]) (by simp [results, Try.results110, go_sem, p0, p1, p2, p3, p4]) rfl HFIN.out
end Go.Proofs.Ytaeidephegnkdaa
