/- Contracts of package natural: numbers of 64 bits. -/
import Derived.Test.YtkpchamgghhihaaNatC
namespace Go.Proofs.Ytkpchamgghhihaa
open Go.RowKit Gm

set_option maxHeartbeats 400000 in
theorem FromUint64_c (v : Nat) (w : World) (hv : v < Ba * Ba) :
    Calls Try.prog 68 #[.int .u64 (v : Int)] w (RetNat w v) := by
  have h1 : (v : Int) < 18446744073709551616 := by have : Ba * Ba = 18446744073709551616 := by decide
                                                   omega
  go_enter Try.func68, Try.ntmps68
  go_wp2_with fail
  have hr : Row (w.alloc (.cells #[.int .u32 ((v : Int) % 4294967296), .int .u32 ((v : Int) / 4294967296)] 24)) w.heap.size [v % Ba, v / Ba] := Row.new w [v % Ba, v / Ba]
  refine (cut_own hr (Lb_two hv) (Nat.le_refl _) rfl (by simp) (val_two v) ((Below.refl _ _).alloc (Nat.le_refl _) _)).mono ?_
  rintro e w' ⟨A', c', rfl, r3, r4⟩
  go_wp2
  go_ret
  exact ⟨A', c', rfl, r3, r4⟩

set_option maxHeartbeats 400000 in
theorem word_c (A : Option Addr) (xs : List Nat) (c : Nat) (w : World) (h : Lim w A c xs) (hl : xs.length ≤ 2) :
    Calls Try.prog 67 #[.slice A xs.length c] w fun e w' => e = .returned (.int .u64 (val xs : Nat)) ∧ w = w' := by
  go_enter Try.func67, Try.ntmps67
  go_wp2
  go_loop [3, 8] (fun t i => ∃ k : Nat, k ≤ xs.length ∧ i = .int .i64 k ∧ t = .int .u64 (val (xs.take k) : Nat)) (fun _ i => xs.length - (intOf i).toNat)
  case atStart => exact ⟨0, Nat.zero_le _, rfl, by simp [val]⟩
  case round =>
    obtain ⟨k, hk, rfl, rfl⟩ := hrel
    by_cases hlt : k < xs.length
    · obtain ⟨b, off, rfl, hb, hcell⟩ := h.at_ (by omega)
      have hx := hcell k (by omega)
      have bx : xs[k]?.getD 0 < 4294967296 := h.lb.get k
      clear hcell
      have hs := val_take_succ (xs := xs) hlt
      obtain ⟨x, ex⟩ : ∃ x, xs[k]?.getD 0 = x := ⟨_, rfl⟩
      rw [ex] at hx bx hs
      have HS := Lib.hid hs
      have hv0 : val (xs.take k) < 4294967296 := by
        have h1 := val_take_lt h.lb k
        have h2 : Ba ^ k ≤ Ba ^ 1 := Nat.pow_le_pow_right Ba_pos (by omega)
        have h3 : Ba ^ 1 = 4294967296 := by decide
        omega
      clear ex hs
      have hk2 : k = 0 ∨ k = 1 := by omega
      rcases hk2 with rfl | rfl
      · have e0 : val (xs.take 0) = 0 := by simp [val]
        rw [e0]
        rw [Nat.add_zero] at hx
        go_wp2
        go_round
        case rel => exact ⟨1, by omega, by go_num, by rw [HS.out, e0]; simp [or_zero x bx]⟩
        case measure => simp [intOf]; omega
      · obtain ⟨v, ev⟩ : ∃ v, val (xs.take 1) = v := ⟨_, rfl⟩
        rw [ev] at hv0 ⊢
        have EV := Lib.hid ev
        clear ev
        go_wp2
        go_round
        case rel => exact ⟨2, by omega, by go_num, by rw [HS.out, EV.out, or_hi v x hv0 bx]; rfl⟩
        case measure => simp [intOf]; omega
    · go_wp2
      go_ret
      exact ⟨by rw [List.take_of_length_le (by omega)]; rfl, rfl⟩

theorem FromUint64_i (z : Int) (w : World) (h0 : 0 ≤ z) (h1 : z < 18446744073709551616) :
    Calls Try.prog 68 #[.int .u64 z] w (RetNat w z.toNat) := by
  obtain ⟨v, rfl⟩ := Int.eq_ofNat_of_zero_le h0
  rw [Int.toNat_natCast]
  exact FromUint64_c v w (by have : Ba * Ba = 18446744073709551616 := by decide
                             omega)

set_option maxHeartbeats 400000 in
theorem Uint64_yes (A : Option Addr) (xs : List Nat) (c : Nat) (w : World) (h : Lim w A c xs) (hv : val xs < Ba * Ba) :
    Calls Try.prog 112 #[.slice A xs.length c] w fun e w' => e = .returned (.tuple #[.int .u64 (val xs : Nat), .bool true]) ∧ w = w' := by
  go_enter Try.func112, Try.ntmps112
  go_wp2_with fail
  refine (cut_c _ _ _ _ h).mono ?_
  rintro e w' ⟨rfl, rfl⟩
  have h2 := limbs_two.2 hv
  go_wp2_with fail
  refine (word_c _ _ _ _ h.cut h2).mono ?_
  rintro e w' ⟨rfl, rfl⟩
  rw [val_limbs]
  go_wp2_with fail
  go_ret2
  exact ⟨rfl, rfl⟩

set_option maxHeartbeats 400000 in
theorem Uint64_no (A : Option Addr) (xs : List Nat) (c : Nat) (w : World) (h : Lim w A c xs) (hv : Ba * Ba ≤ val xs) :
    Calls Try.prog 112 #[.slice A xs.length c] w fun e w' => e = .returned (.tuple #[.int .u64 0, .bool false]) ∧ w = w' := by
  go_enter Try.func112, Try.ntmps112
  go_wp2_with fail
  refine (cut_c _ _ _ _ h).mono ?_
  rintro e w' ⟨rfl, rfl⟩
  have h2 : (2 : Int) < ((limbs (val xs)).length : Int) := by
    have : ¬ (limbs (val xs)).length ≤ 2 := fun h => by have := limbs_two.1 h; omega
    omega
  go_wp2_with fail
  go_ret2
  exact ⟨rfl, rfl⟩

set_option maxHeartbeats 400000 in
theorem Trim_c (A : Option Addr) (xs : List Nat) (c : Nat) (w : World) (h : Lim w A c xs) (hs : xs.length ≤ 70368744177664) :
    Calls Try.prog 18 #[.slice A xs.length c] w (RetNat w (val xs)) := by
  have la := limbs_length_le h.lb
  have hmk := mk_run (↑(limbs (val xs)).length) (limbs (val xs)).length rfl (by omega)
  have hb1 : Below w.heap.size w (w.alloc (.cells (cellsOf (zeros (limbs (val xs)).length)) 24)) := (Below.refl _ _).alloc (Nat.le_refl _) _
  obtain ⟨w2, hcp, hrow, hbel⟩ := copy_run (dLen := (limbs (val xs)).length) (dCap := (limbs (val xs)).length) (off := 0) (c := c) (Row.new w (zeros (limbs (val xs)).length)) (h.cut.below hb1) (Nat.le_refl _) (by rw [zeros_length]; omega) hb1 (Nat.le_refl _)
  have e1 : (zeros (limbs (val xs)).length).take 0 ++ (limbs (val xs) ++ (zeros (limbs (val xs)).length).drop (0 + (limbs (val xs)).length)) = limbs (val xs) := by
    rw [List.drop_of_length_le (by rw [zeros_length]; omega)]; simp
  rw [e1] at hrow
  clear e1 hb1
  go_enter Try.func18, Try.ntmps18
  go_wp2_with fail
  refine (cut_c _ _ _ _ h).mono ?_
  rintro e w' ⟨rfl, rfl⟩
  go_wp2_with fail
  go_ret
  exact ⟨_, _, rfl, hrow.own (Lb_limbs _) (Nat.le_refl _) (by omega), hbel⟩

end Go.Proofs.Ytkpchamgghhihaa
