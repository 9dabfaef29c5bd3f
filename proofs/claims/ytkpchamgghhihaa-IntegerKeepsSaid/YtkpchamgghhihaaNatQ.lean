/- Contracts of package natural: the shift to the left. -/
import Derived.Test.YtkpchamgghhihaaNatP
namespace Go.Proofs.Ytkpchamgghhihaa
open Go.RowKit Gm

theorem shl_all (V n d s : Nat) (hd : n / 32 = d) (hs : n % 32 = s) : V * 2 ^ n = Ba ^ d * (V * 2 ^ s) := by
  rw [pow_split n, hd, hs]; grind

/-- s[d:] of a row -/
theorem slice_from (g N d m : Nat) (h : d < N) (hm : N - d = m) (u : World) : (Instr.sliceAt 22 (.slice (some ⟨g, 0, none⟩) N N) (some (.int .i64 (d : Int))) none none).run Try.prog u = .ok (.slice (some ⟨g, d, none⟩) m m) u := by
  subst hm
  have i1 : ¬ N = d := by omega
  go_simp
  intro hc
  omega

set_option maxRecDepth 100000 in
set_option maxHeartbeats 2000000 in
theorem ShiftLeft_c (A : Option Addr) (xs : List Nat) (c n : Nat) (w : World) (ha : Lim w A c xs) (hs : xs.length ≤ 70368744170000) (hn : n ≤ 65536) :
    Calls Try.prog 16 #[.slice A xs.length c, .int .i64 (n : Int)] w (RetNatOk w (val xs * 2 ^ n)) := by
  have la := limbs_length_le ha.lb
  by_cases h0 : val xs = 0
  · have hl : (limbs (val xs)).length = 0 := by rw [h0, limbs_zero]; rfl
    have HL := Lib.hid hl
    rw [h0, Nat.zero_mul]
    clear hl h0
    go_enter Try.func16, Try.ntmps16
    go_wp2_with fail
    refine (cut_c _ _ _ _ ha).mono ?_
    rintro e w' ⟨rfl, rfl⟩
    rw [HL.out]
    go_wp2_with fail
    go_ret2
    exact ⟨none, 0, by rw [limbs_zero]; rfl, by rw [limbs_zero]; exact Own.nil _ _ _, Below.refl _ _⟩
  · have ha2 := ha.cut
    have EA := val_limbs (val xs)
    have hp : 0 < (limbs (val xs)).length := List.length_pos_iff.2 (fun e => h0 (limbs_eq_nil.1 e))
    obtain ⟨us, hus⟩ : ∃ us, limbs (val xs) = us := ⟨_, rfl⟩
    obtain ⟨d, hd⟩ : ∃ d, n / 32 = d := ⟨_, rfl⟩
    obtain ⟨s, hsm⟩ : ∃ s, n % 32 = s := ⟨_, rfl⟩
    rw [hus] at ha2 la EA hp
    have e1 : (n : Int) / 32 = (d : Int) := by omega
    have e2 : (n : Int) % 32 = (s : Int) := by omega
    have e3 : (n : Int).tmod 32 = (s : Int) := by rw [Int.tmod_eq_emod_of_nonneg (by omega)]; exact e2
    have h32 : s < 32 := by omega
    have hd2 : d ≤ 2048 := by omega
    have hv := shl_all (val xs) n d s hd hsm
    have hlne : ((us.length : Int) == 0) = false := by rw [beq_eq_false_iff_ne]; omega
    obtain ⟨N, eN⟩ : ∃ N, d + us.length + 1 = N := ⟨_, rfl⟩
    have eN' : (d : Int) + us.length + 1 = (N : Int) := by omega
    have hmk := mk_run (N : Int) N rfl (by omega)
    have e4 : (n : Int).tdiv 32 = (d : Int) := by rw [Int.tdiv_eq_ediv_of_nonneg (by omega)]; exact e1
    have HUS := Lib.hid (show (limbs (val xs)).length = us.length by rw [hus])
    have HEA := Lib.hid EA
    have HV := Lib.hid hv
    have b0 := bel1 w (.cells (cellsOf (zeros N)) 24)
    have wd : IntKind.i64.wrap (d : Int) = (d : Int) := IntWalk.i64_in _ (by omega)
    have ws : IntKind.i64.wrap (s : Int) = (s : Int) := IntWalk.i64_in _ (by omega)
    have i1 : ¬ N = d := by omega
    have i10 : ¬ N < d := by omega
    have i11 : ¬ (N : Int) < (d : Int) := by omega
    have i12 : N - d = us.length + 1 := by omega
    have i2 : (d : Int) ≤ (N : Int) := by omega
    have i3 : (0 : Int) ≤ (d : Int) := by omega
    have HEN := Lib.hid eN
    clear hus hd hsm EA hv h0 eN
    go_enter Try.func16, Try.ntmps16
    go_wp2_with fail
    refine (cut_c _ _ _ _ ha).mono ?_
    rintro e w' ⟨rfl, rfl⟩
    rw [HUS.out]
    go_wp2_with fail
    have hrow0 := Row.new w (zeros N)
    obtain ⟨W, hW⟩ : ∃ W, w.alloc (.cells (cellsOf (zeros N)) 24) = W := ⟨_, rfl⟩
    rw [hW] at b0 hrow0 ⊢
    have hWlt : w.heap.size < W.heap.size := hrow0.lt
    have ha3 := ha2.below b0
    clear hW hmk ha ha2
    go_region_held3 (fun _ => True) (first | trivial | go_keep)
      (first
        | (go_at_call 71; refine (shifted_k A us c s us.length _ ?_ rfl ?_ h32).mono ?_; exact ha3.drewN 1; omega; rintro e w1 ⟨zs, rfl, hzl, hzb, hzv, hzr, b1⟩; obtain ⟨w2, hcp, hrow, hbel⟩ := copy_run (w0 := w) (B := w.heap.size) (g := w.heap.size) (off := d) (dLen := us.length + 1) (dCap := us.length + 1) (c := zs.length) ((show Row W.drew w.heap.size (zeros N) from hrow0).below b1 hWlt) (hzr.lim hzb (show zs.length ≤ 9223372036854775807 by rw [hzl]; omega)) (by rw [hzl]; exact Nat.le_refl _) (by rw [hzl, zeros_length]; have := HEN.out; omega) (b0.drew.trans (b1.mono (Nat.le_of_lt hWlt))) (Nat.le_refl _); rw [hzl] at hcp; have hcp2 : (Builtin.copy_ #[22, 22] 3 #[.slice (some ⟨w.heap.size, d, none⟩) (us.length + 1) (us.length + 1), .slice (some ⟨W.heap.size, 0, none⟩) (us.length + 1) (us.length + 1)]).run Try.prog w1 = .ok (goInt (us.length + 1)) w2 := hcp; clear hcp))
    have hzz : (zeros N).take d ++ (zs ++ (zeros N).drop (d + zs.length)) = zeros d ++ zs := by
      have h1 := HEN.out
      have h2 : (zeros N).take d = zeros d := by simp only [zeros, List.take_replicate]; congr 1; omega
      rw [h2, List.drop_of_length_le (by rw [zeros_length, hzl]; omega), List.append_nil]
    rw [hzz] at hrow
    have hval : val (zeros d ++ zs) = val xs * 2 ^ n := by
      rw [val_append, zeros_val, zeros_length, Nat.zero_add, hzv, HV.out, ← HEA.out]
    have hlen : (zeros d ++ zs).length = N := by rw [List.length_append, zeros_length, hzl]; exact HEN.out
    have HVAL := Lib.hid hval
    have HLEN := Lib.hid hlen
    clear hval hlen hzz hcp2
    go_wp2_with fail
    refine (cut_own (w := w) hrow ((zeros_lb d).append hzb) (Nat.le_refl _) HLEN.out (by omega) HVAL.out hbel).mono ?_
    rintro e w7 ⟨A7, c7, rfl, r7, b7⟩
    go_wp2
    go_ret2
    exact ⟨A7, c7, rfl, r7, b7⟩

set_option maxRecDepth 100000 in
set_option maxHeartbeats 400000 in
theorem ShiftLeft_no (A : Option Addr) (xs : List Nat) (c : Nat) (n : Int) (w : World) (hn : n < 0 ∨ 65536 < n) :
    Calls Try.prog 16 #[.slice A xs.length c, .int .i64 n] w (RetNoB w) := by
  rcases hn with h | h
  · go_enter Try.func16, Try.ntmps16
    go_wp2
    go_ret2
    exact ⟨rfl, Below.refl _ _⟩
  · have h' : ¬ n < 0 := by omega
    go_enter Try.func16, Try.ntmps16
    go_wp2
    go_ret2
    exact ⟨rfl, Below.refl _ _⟩
set_option maxRecDepth 100000 in
set_option maxHeartbeats 400000 in
theorem ShiftRight_no (A : Option Addr) (xs : List Nat) (c : Nat) (n : Int) (w : World) (hn : n < 0) :
    Calls Try.prog 17 #[.slice A xs.length c, .int .i64 n] w (RetNoB w) := by
  go_enter Try.func17, Try.ntmps17
  go_wp2
  go_ret2
  exact ⟨rfl, Below.refl _ _⟩
section
variable (A : Option Addr) (xs : List Nat) (c : Nat) (w : World) (m s n K : Nat)
theorem ShiftLeft_n (ha : Lim w A c xs) (hs : xs.length ≤ K) (hm : val xs = m) (h : m * 2 ^ n = s) (hn : n ≤ 65536) (hK : K ≤ 70368744170000) :
    Calls Try.prog 16 #[.slice A xs.length c, .int .i64 (n : Int)] w (RetNatOk w s) := by
  subst hm h; exact ShiftLeft_c A xs c n w ha (by omega) hn
theorem ShiftRight_n (ha : Lim w A c xs) (hs : xs.length ≤ K) (hm : val xs = m) (h : m / 2 ^ n = s) (hn : n ≤ 9223372036854775807) (hK : K ≤ 70368744177664) :
    Calls Try.prog 17 #[.slice A xs.length c, .int .i64 (n : Int)] w (RetNatOk w s) := by
  subst hm h; exact ShiftRight_c A xs c n w ha (by omega) hn
end
theorem nb_pow (n : Nat) : nb (2 ^ n) = n + 1 := nb_eq (Nat.le_refl _) (Nat.pow_lt_pow_right (by decide) (by omega))
theorem shl_sz {m n s k : Nat} (hm : (limbs m).length ≤ k) (h : m * 2 ^ n = s) (hn : n ≤ 255) : (limbs s).length ≤ k + 8 := by
  have h2 : (limbs (2 ^ n)).length ≤ 8 := limbs_length_lt (by
    rw [Ba_pow]; exact Nat.pow_lt_pow_right (by decide) (by omega))
  subst h
  have := limbs_mul_le m (2 ^ n)
  omega
end Go.Proofs.Ytkpchamgghhihaa
