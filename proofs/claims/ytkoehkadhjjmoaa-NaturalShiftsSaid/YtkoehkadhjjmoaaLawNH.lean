/- The walk of the statement NaturalShifts: it returns true. -/
import Derived.Test.YtkoehkadhjjmoaaRefL
import Derived.Test.YtkoehkadhjjmoaaOpen
namespace Go.Proofs.Ytkoehkadhjjmoaa
open Go.RowKit Gm

def okL (v : Int) : Bool := decide (0 ≤ v ∧ v ≤ 65536)
def okR (v : Int) : Bool := decide (0 ≤ v)
def shL (V : Nat) (v : Int) : List Nat := if okL v then limbs (V * 2 ^ v.toNat) else []
def shR (V : Nat) (v : Int) : List Nat := if okR v then limbs (V / 2 ^ v.toNat) else []
/-- what a shift returns -/
def RetSh (w : World) (s : List Nat) (b : Bool) (e : Ending) (w' : World) : Prop :=
  ∃ A c, e = .returned (.tuple #[.slice A s.length c, .bool b]) ∧ Lim w' A c s ∧ Below w.heap.size w w'
theorem sh_ok {w w' : World} {n : Nat} {e : Ending} (h : RetNatOk w n e w') : RetSh w (limbs n) true e w' := by
  obtain ⟨A, c, h1, h2, h3⟩ := h
  exact ⟨A, c, h1, h2.lim, h3⟩
theorem sh_no {w w' : World} {e : Ending} (h : RetNoB w e w') : RetSh w [] false e w' := ⟨none, 0, h.1, Lim.nil _ _, h.2⟩
section
variable (A : Option Addr) (xs : List Nat) (c : Nat) (v : Int) (w : World)
theorem SL_u (ha : Lim w A c xs) (hs : xs.length ≤ 35184372087808) : Calls Try.prog 69 #[.slice A xs.length c, .int .i64 v] w (RetSh w (shL (val xs) v) (okL v)) := by
  by_cases h : 0 ≤ v ∧ v ≤ 65536
  · have ho : okL v = true := decide_eq_true h
    rw [shL, ho]
    obtain ⟨n, rfl⟩ := Int.eq_ofNat_of_zero_le h.1
    exact (ShiftLeft_c A xs c n w ha (by omega) (by omega)).mono fun _ _ => sh_ok
  · have ho : okL v = false := decide_eq_false h
    rw [shL, ho]
    exact (ShiftLeft_no A xs c v w (by omega)).mono fun _ _ => sh_no
theorem rSL_u (ha : Lim w A c xs) (hs : xs.length ≤ 35184372087808) : Calls Try.prog 73 #[.slice A xs.length c, .int .i64 v] w (RetSh w (shL (val xs) v) (okL v)) := by
  by_cases h : 0 ≤ v ∧ v ≤ 65536
  · have ho : okL v = true := decide_eq_true h
    rw [shL, ho]
    obtain ⟨n, rfl⟩ := Int.eq_ofNat_of_zero_le h.1
    exact (rShiftLeft_c A xs c n w ha (by omega) (by omega)).mono fun _ _ => sh_ok
  · have ho : okL v = false := decide_eq_false h
    rw [shL, ho]
    exact (rShiftLeft_no A xs c v w (by omega)).mono fun _ _ => sh_no
theorem SR_u (ha : Lim w A c xs) (hs : xs.length ≤ 35184372087808) (hv : v ≤ 9223372036854775807) : Calls Try.prog 70 #[.slice A xs.length c, .int .i64 v] w (RetSh w (shR (val xs) v) (okR v)) := by
  by_cases h : 0 ≤ v
  · have ho : okR v = true := decide_eq_true h
    rw [shR, ho]
    obtain ⟨n, rfl⟩ := Int.eq_ofNat_of_zero_le h
    exact (ShiftRight_c A xs c n w ha (by omega) (by omega)).mono fun _ _ => sh_ok
  · have ho : okR v = false := decide_eq_false h
    rw [shR, ho]
    exact (ShiftRight_no A xs c v w (by omega)).mono fun _ _ => sh_no
theorem rSR_u (ha : Lim w A c xs) (hs : xs.length ≤ 35184372087808) (hv : v ≤ 9223372036854775807) : Calls Try.prog 74 #[.slice A xs.length c, .int .i64 v] w (RetSh w (shR (val xs) v) (okR v)) := by
  by_cases h : 0 ≤ v
  · have ho : okR v = true := decide_eq_true h
    rw [shR, ho]
    obtain ⟨n, rfl⟩ := Int.eq_ofNat_of_zero_le h
    exact (rShiftRight_c A xs c n w ha (by omega) (by omega)).mono fun _ _ => sh_ok
  · have ho : okR v = false := decide_eq_false h
    rw [shR, ho]
    exact (rShiftRight_no A xs c v w (by omega)).mono fun _ _ => sh_no
end
theorem limbs_pow_le (t : Nat) : (limbs (2 ^ t)).length ≤ t / 32 + 1 := limbs_length_lt (by
  rw [Ba_pow]; exact Nat.pow_lt_pow_right (by decide) (by omega))
theorem shL_len {V : Nat} {v : Int} (h : (limbs V).length ≤ 35184372087808) : (shL V v).length ≤ 70368744177664 := by
  unfold shL
  split
  · next ho =>
    have ho' := of_decide_eq_true ho
    have h2 := limbs_pow_le v.toNat
    have := limbs_mul_le V (2 ^ v.toNat)
    omega
  · simp
theorem shR_len {V : Nat} {v : Int} (h : (limbs V).length ≤ 35184372087808) : (shR V v).length ≤ 70368744177664 := by
  unfold shR
  split
  · exact Nat.le_trans (limbs_mono (Nat.div_le_self _ _)) (by omega)
  · simp

set_option maxRecDepth 100000 in
set_option maxHeartbeats 4000000 in
theorem nshifts1 (A0 : Option Addr) (xs0 : List Nat) (c0 : Nat) (n m : Int) (w : World) (h0 : Lim w A0 c0 xs0) (k0 : xs0.length ≤ 35184372087808) (hn2 : n ≤ 9223372036854775807) (hm1 : 0 ≤ m) (hm2 : m ≤ 255) :
    Calls Try.prog 18 #[.slice A0 xs0.length c0, .int .i64 n, .int .u8 m] w (RetB w true) := by
  have b0 := bel1 w (.cells #[.int .i64 n, .int .i64 m] 3)
  have hc0 : (w.alloc (.cells #[.int .i64 n, .int .i64 m] 3)).cell? ⟨w.heap.size, 0, none⟩ = some (.int .i64 n) := by go_simp
  have hc1 : (w.alloc (.cells #[.int .i64 n, .int .i64 m] 3)).cell? ⟨w.heap.size, 1, none⟩ = some (.int .i64 m) := by go_simp
  have hsz : w.heap.size < (w.alloc (.cells #[.int .i64 n, .int .i64 m] 3)).heap.size := by simp
  have hlen : (limbs (val xs0)).length ≤ 35184372087808 := Nat.le_trans (limbs_length_le h0.lb) k0
  have HC0 := Lib.hid hc0
  have HC1 := Lib.hid hc1
  clear hc0 hc1
  go_enter Try.func18, Try.ntmps18
  go_wp2_with fail
  obtain ⟨W, hW⟩ : ∃ W, w.alloc (.cells #[.int .i64 n, .int .i64 m] 3) = W := ⟨_, rfl⟩
  rw [hW] at b0 HC0 HC1 hsz ⊢
  clear hW
  replace h0 := h0.below b0
  go_loopw [22] (fun i wr => ∃ k : Nat, k ≤ 2 ∧ i = .int .i64 k ∧ Below W.heap.size W wr) (fun i _ => 2 - (intOf i).toNat)
  case atStart => exact ⟨0, by omega, rfl, Below.refl _ _⟩
  case round =>
    obtain ⟨k, hk, rfl, hB⟩ := hrel
    by_cases hlt : k < 2
    · obtain ⟨v, hv, hv2⟩ : ∃ v : Int, wr.cell? ⟨w.heap.size, k, none⟩ = some (.int .i64 v) ∧ v ≤ 9223372036854775807 := by
        have hk01 : k = 0 ∨ k = 1 := by omega
        rcases hk01 with rfl | rfl
        · exact ⟨n, cellB hB hsz HC0.out, hn2⟩
        · exact ⟨m, cellB hB hsz HC1.out, by omega⟩
      have hl := h0.below hB
      have l1 := shL_len (v := v) hlen
      have l2 := shR_len (v := v) hlen
      go_wp2_with fail
      refine (SL_u A0 xs0 c0 v wr hl k0).mono ?_
      rintro e w1 ⟨A1, c1, rfl, r1, b1⟩
      go_wp2_with fail
      refine (rSL_u A0 xs0 c0 v w1 (hl.below b1) k0).mono ?_
      rintro e w2 ⟨A2, c2, rfl, r2, b2⟩
      go_wp2_with fail
      refine (SR_u A0 xs0 c0 v w2 ((hl.below b1).below b2) k0 hv2).mono ?_
      rintro e w3 ⟨A3, c3, rfl, r3, b3⟩
      go_wp2_with fail
      refine (rSR_u A0 xs0 c0 v w3 (((hl.below b1).below b2).below b3) k0 hv2).mono ?_
      rintro e w4 ⟨A4, c4, rfl, r4, b4⟩
      have b14 : Below wr.heap.size wr w4 := ((b1.trans (b2.mono b1.size)).trans (b3.mono (Nat.le_trans b1.size b2.size))).trans (b4.mono (Nat.le_trans (Nat.le_trans b1.size b2.size) b3.size))
      replace r1 := ((r1.below b2).below b3).below b4
      replace r2 := (r2.below b3).below b4
      replace r3 := r3.below b4
      clear b1 b2 b3 b4
      generalize shL (val xs0) v = s1 at *
      generalize shR (val xs0) v = s2 at *
      generalize okL v = o1 at *
      generalize okR v = o2 at *
      have hb1 : (o1 != o1) = false := by simp
      have hb2 : (o2 != o2) = false := by simp
      go_wp2_with fail
      refine (rEq_n A1 A2 s1 s1 c1 c2 w4 70368744177664 70368744177664 r1 r2 l1 l1 rfl (Nat.le_refl _) (Nat.le_refl _)).mono ?_
      rintro e w5 ⟨rfl, b5⟩
      go_wp2_with fail
      refine (rEq_n A3 A4 s2 s2 c3 c4 w5 70368744177664 70368744177664 (r3.below b5) (r4.below b5) l2 l2 rfl (Nat.le_refl _) (Nat.le_refl _)).mono ?_
      rintro e w6 ⟨rfl, b6⟩
      have hB6 : Below W.heap.size W w6 := hB.trans (((b14.trans (b5.mono b14.size)).trans (b6.mono (Nat.le_trans b14.size b5.size))).mono hB.size)
      clear r1 r2 r3 r4 b5 b6 b14 l1 l2
      go_wp2_with fail
      go_roundw
      case rel => exact ⟨k + 1, by omega, by go_num, hB6⟩
      case measure => simp [intOf]; omega
    · obtain rfl : k = 2 := by omega
      have hl := h0.below hB
      obtain ⟨N, eN⟩ : ∃ N, nb (val xs0) = N := ⟨_, rfl⟩
      have EN := Lib.hid eN
      clear eN
      go_wp2_with fail
      refine (awake1_c wr).mono ?_
      rintro e w1 ⟨rfl, b1⟩
      go_wp2_with fail
      refine (Bits_n A0 xs0 c0 w1 (val xs0) N 35184372087808 (hl.below b1) k0 rfl EN.out (by omega)).mono ?_
      rintro e w2 ⟨rfl, b2⟩
      have hl2 := (hl.below b1).below b2
      go_wp2_with fail
      refine (rBits_c A0 xs0 c0 w2 hl2 (by omega)).mono ?_
      rintro e w3 ⟨rfl, b3⟩
      rw [EN.out]
      have hend : Below w.heap.size w w3 := b0.trans ((hB.trans (((b1.trans (b2.mono b1.size)).trans (b3.mono (Nat.le_trans b1.size b2.size))).mono hB.size)).mono b0.size)
      clear b1 b2 b3
      go_wp2
      go_ret
      exact ⟨rfl, hend⟩

theorem nshifts_walk (A0 : Option Addr) (xs0 : List Nat) (c0 : Nat) (n m : Int) (w : World) (h0 : Lim w A0 c0 xs0) (k0 : xs0.length ≤ 35184372087808) (wn : (Lit.int .i64 n).wf = true) (wm : (Lit.int .u8 m).wf = true) :
    Calls Try.prog 18 #[.slice A0 xs0.length c0, .int .i64 n, .int .u8 m] w (RetB w true) := by
  obtain ⟨_, n2⟩ := bounds_i64 wn
  obtain ⟨m1, m2⟩ := bounds_u8 wm
  exact nshifts1 A0 xs0 c0 n m w h0 k0 n2 m1 m2
end Go.Proofs.Ytkoehkadhjjmoaa
