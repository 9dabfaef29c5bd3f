/- NatN NatO NatP NatQ in one text. -/
import Derived.Test.YtdcofnjekdkifaaMD1
import Derived.Test.YtdcofnjekdkifaaMB
import Derived.Test.YtdcofnjekdkifaaMC2
namespace Go.Proofs.Ytdcofnjekdkifaa
open Go.RowKit Gm
/- Contracts with named results, for the walks of the statements: natural numbers. Literal lists of limbs. -/

theorem limbs_lit (zs : List Nat) (h : (zs.all (fun x => decide (x < 4294967296)) && (zs.getLast?.getD 1 != 0)) = true) : limbs (val zs) = zs := by
  rw [Bool.and_eq_true] at h
  obtain ⟨h1, h2⟩ := h
  have hb : Lb zs := fun x hx => of_decide_eq_true (List.all_eq_true.1 h1 x hx)
  rcases List.eq_nil_or_concat zs with rfl | ⟨l, x, rfl⟩
  · exact limbs_zero
  · have hx : x ≠ 0 := by simpa using h2
    rw [List.concat_eq_append] at *
    have hl : Lb l := fun y hy => hb y (List.mem_append_left _ hy)
    exact limbs_val_snoc hl (hb x (by simp)) hx
theorem limbs_lit' {n : Nat} (zs : List Nat) (h : (zs.all (fun x => decide (x < 4294967296)) && (zs.getLast?.getD 1 != 0)) = true) (hn : val zs = n) : limbs n = zs := by
  rw [← hn]; exact limbs_lit zs h
theorem Lb_lit (zs : List Nat) (h : zs.all (fun x => decide (x < 4294967296)) = true) : Lb zs := fun x hx => of_decide_eq_true (List.all_eq_true.1 h x hx)

/-- literal lists in new memory -/
theorem lit1 (w : World) (zs : List Nat) (hz : Lb zs) (hl : zs.length ≤ 9223372036854775807) : Lim (w.alloc (.cells (cellsOf zs) 40)) (some ⟨w.heap.size, 0, none⟩) zs.length zs :=
  ((Row.new w zs).own hz (Nat.zero_le _) hl).lim
theorem bel1 (w : World) (o : Obj) : Below w.heap.size w (w.alloc o) := (Below.refl _ _).alloc (Nat.le_refl _) _
theorem lit2 (w : World) (o : Obj) (zs : List Nat) (hz : Lb zs) (hl : zs.length ≤ 9223372036854775807) : Lim ((w.alloc o).alloc (.cells (cellsOf zs) 40)) (some ⟨w.heap.size + 1, 0, none⟩) zs.length zs := by
  have h := lit1 (w.alloc o) zs hz hl
  have e : (w.alloc o).heap.size = w.heap.size + 1 := by simp
  rw [e] at h
  exact h
theorem bel2 (w : World) (o q : Obj) : Below w.heap.size w ((w.alloc o).alloc q) := (bel1 w o).alloc (by simp) _

section
variable (A B : Option Addr) (xs ys : List Nat) (c d : Nat) (w : World) (m n s t : Nat) (K L : Nat)
theorem Add_n (ha : Lim w A c xs) (hb : Lim w B d ys) (hs : xs.length ≤ K) (ht : ys.length ≤ L) (hm : val xs = m) (hn : val ys = n) (h : m + n = s) (hK : K < 70368744177664) (hL : L < 70368744177664) :
    Calls Try.prog 87 #[.slice A xs.length c, .slice B ys.length d] w (RetNat w s) := by
  subst hm hn h; exact Add_c A B xs ys c d w ha hb (by omega) (by omega)
theorem Mul_n (ha : Lim w A c xs) (hb : Lim w B d ys) (hs : xs.length ≤ K) (ht : ys.length ≤ L) (hm : val xs = m) (hn : val ys = n) (h : m * n = s) (hK : K + L ≤ 70368744177664) :
    Calls Try.prog 59 #[.slice A xs.length c, .slice B ys.length d] w (RetNat w s) := by
  subst hm hn h; exact Mul_c A B xs ys c d w ha hb (by omega)
theorem SubY_n (ha : Lim w A c xs) (hb : Lim w B d ys) (hs : xs.length ≤ K) (hm : val xs = m) (hn : val ys = n) (h : n ≤ m) (hr : m - n = s) (hK : K ≤ 70368744177664) :
    Calls Try.prog 88 #[.slice A xs.length c, .slice B ys.length d] w (RetNatOk w s) := by
  subst hm hn hr; exact Sub_ok A B xs ys c d w ha hb (by omega) h
/-- nothing but a pair of an empty list and false -/
def RetNoB (w : World) (e : Ending) (w' : World) : Prop := e = .returned (.tuple #[.slice none 0 0, .bool false]) ∧ Below w.heap.size w w'
theorem SubN_n (ha : Lim w A c xs) (hb : Lim w B d ys) (hm : val xs = m) (hn : val ys = n) (h : m < n) :
    Calls Try.prog 88 #[.slice A xs.length c, .slice B ys.length d] w (RetNoB w) := by
  subst hm hn
  refine (Sub_no A B xs ys c d w ha hb h).mono ?_
  rintro e w' ⟨rfl, k, rfl⟩
  exact ⟨rfl, below_drewN (Below.refl _ _) k⟩
theorem DivMod_n (ha : Lim w A c xs) (hb : Lim w B d ys) (hs : xs.length ≤ K) (hm : val xs = m) (hn : val ys = n) (h0 : n ≠ 0) (hq : m / n = s) (hr : m % n = t) (hK : K < 70368744177664) :
    Calls Try.prog 83 #[.slice A xs.length c, .slice B ys.length d] w (RetDiv w s t) := by
  subst hm hn hq hr; exact DivMod_c A B xs ys c d w ha hb (by omega) h0
def RetDivNoB (w : World) (e : Ending) (w' : World) : Prop := e = .returned (.tuple #[.slice none 0 0, .slice none 0 0, .bool false]) ∧ Below w.heap.size w w'
theorem DivModN_n (ha : Lim w A c xs) (hb : Lim w B d ys) (hn : val ys = n) (h0 : n = 0) :
    Calls Try.prog 83 #[.slice A xs.length c, .slice B ys.length d] w (RetDivNoB w) := by
  subst hn
  refine (DivMod_zero A B xs ys c d w ha hb h0).mono ?_
  rintro e w' ⟨rfl, rfl⟩
  exact ⟨rfl, Below.refl _ _⟩
theorem Trim_n (ha : Lim w A c xs) (hs : xs.length ≤ K) (hm : val xs = s) (hK : K ≤ 70368744177664) :
    Calls Try.prog 81 #[.slice A xs.length c] w (RetNat w s) := by
  subst hm; exact Trim_c A xs c w ha (by omega)
theorem Compare_n (x : Int) (ha : Lim w A c xs) (hb : Lim w B d ys) (hm : val xs = m) (hn : val ys = n) (h : cmpN m n = x) :
    Calls Try.prog 56 #[.slice A xs.length c, .slice B ys.length d] w (RetI w x) := by
  subst hm hn h
  refine (Compare_c A B xs ys c d w ha hb).mono ?_
  rintro e w' ⟨rfl, k, rfl⟩
  exact ⟨rfl, below_drewN (Below.refl _ _) k⟩
theorem rAdd_n (ha : Lim w A c xs) (hb : Lim w B d ys) (hs : xs.length ≤ K) (ht : ys.length ≤ L) (hm : val xs = m) (hn : val ys = n) (h : m + n = s) (hK : K < 70368744177664) (hL : L < 70368744177664) :
    Calls Try.prog 91 #[.slice A xs.length c, .slice B ys.length d] w (RetNat w s) := by
  subst hm hn h; exact rAdd_c A B xs ys c d w ha hb (by omega) (by omega)
theorem rMul_n (ha : Lim w A c xs) (hb : Lim w B d ys) (hs : xs.length ≤ K) (ht : ys.length ≤ L) (hm : val xs = m) (hn : val ys = n) (h : m * n = s) (hK : K + L ≤ 70368744177664) :
    Calls Try.prog 68 #[.slice A xs.length c, .slice B ys.length d] w (RetNat w s) := by
  subst hm hn h; exact rMul_c A B xs ys c d w ha hb (by omega)
theorem rTrim_n (ha : Lim w A c xs) (hs : xs.length ≤ K) (hm : val xs = s) (hK : K ≤ 70368744177664) :
    Calls Try.prog 93 #[.slice A xs.length c] w (RetNat w s) := by
  subst hm; exact rTrim_c A xs c w ha (by omega)
/-- equal lists -/
theorem rEq_n (ha : Lim w A c xs) (hb : Lim w B d ys) (hs : xs.length ≤ K) (ht : ys.length ≤ L) (h : xs = ys) (hK : K ≤ 70368744177664) (hL : L ≤ 70368744177664) :
    Calls Try.prog 55 #[.slice A xs.length c, .slice B ys.length d] w (RetB w true) := by
  refine (rEqual_c A B xs ys c d w ha hb (by omega) (by omega)).mono ?_
  rintro e w' ⟨rfl, k, rfl⟩
  exact ⟨by rw [decide_eq_true h], below_drewN (Below.refl _ _) k⟩
end
theorem limbs_len2 {n : Nat} (h : n < Ba * Ba) : (limbs n).length ≤ 2 := limbs_two.2 h


/- Contracts with named results: the references' differences and comparison; sizes. -/

theorem cmpN_nonneg {m n : Nat} (h : n ≤ m) : 0 ≤ cmpN m n := by
  rcases Nat.lt_or_eq_of_le h with h | h
  · rw [cmpN_gt h]; omega
  · rw [cmpN_eq h.symm]; omega
theorem nmul_sz {m n s k l j : Nat} (hm : (limbs m).length ≤ k) (hn : (limbs n).length ≤ l) (h : m * n = s) (hk : k + l ≤ j) : (limbs s).length ≤ j := by
  subst h
  have := limbs_mul_le m n
  omega
section
variable (A B : Option Addr) (xs ys : List Nat) (c d : Nat) (w : World) (m n s t : Nat) (K L : Nat)
theorem rSubY_n (ha : Lim w A c xs) (hb : Lim w B d ys) (hs : xs.length ≤ K) (ht : ys.length ≤ L) (hm : val xs = m) (hn : val ys = n) (h : n ≤ m) (hr : m - n = s) (hK : K ≤ 70368744177664) (hL : L ≤ 70368744177664) :
    Calls Try.prog 92 #[.slice A xs.length c, .slice B ys.length d] w (RetNatOk w s) := by
  subst hm hn hr; exact rSub_ok A B xs ys c d w ha hb (by omega) (by omega) h
theorem rSubN_n (ha : Lim w A c xs) (hb : Lim w B d ys) (hs : xs.length ≤ K) (ht : ys.length ≤ L) (hm : val xs = m) (hn : val ys = n) (h : m < n) (hK : K ≤ 70368744177664) (hL : L ≤ 70368744177664) :
    Calls Try.prog 92 #[.slice A xs.length c, .slice B ys.length d] w (RetNoB w) := by
  subst hm hn; exact rSub_no A B xs ys c d w ha hb (by omega) (by omega) h
theorem rCompare_n (x : Int) (ha : Lim w A c xs) (hb : Lim w B d ys) (hs : xs.length ≤ K) (ht : ys.length ≤ L) (hm : val xs = m) (hn : val ys = n) (h : cmpN m n = x) (hK : K ≤ 70368744177664) (hL : L ≤ 70368744177664) :
    Calls Try.prog 107 #[.slice A xs.length c, .slice B ys.length d] w (RetI w x) := by
  subst hm hn h; exact rCompare_c A B xs ys c d w ha hb (by omega) (by omega)
end

/- Contracts of package natural: the number of binary digits; numbers of 64 bits with named results. -/
namespace Gm
theorem Ba_pow (k : Nat) : Ba ^ k = 2 ^ (32 * k) := by rw [Nat.pow_mul]; rfl
/-- the binary digits of a list by its top limb -/
theorem nb_val {us : List Nat} {m : Nat} (h : Lb us) (hl : us.length = m + 1) (h0 : us[m]?.getD 0 ≠ 0) : nb (val us) = 32 * m + nb (us[m]?.getD 0) := by
  have hs := val_split (xs := us) (i := m) (by omega)
  rw [List.drop_of_length_le (show us.length ≤ m + 1 by omega)] at hs
  simp only [val, Nat.mul_zero, Nat.add_zero] at hs
  have hlow := val_take_lt h m
  generalize us[m]?.getD 0 = x at *
  have h1 := nb_lt x
  have h2 := nb_ge h0
  have h4 : 1 ≤ nb x := by
    rcases Nat.eq_zero_or_pos (nb x) with h | h
    · exact absurd (nb_eq_zero.1 h) h0
    · exact h
  obtain ⟨k, hk⟩ : ∃ k, nb x = k + 1 := ⟨nb x - 1, by omega⟩
  rw [hk] at h1 h2 ⊢
  rw [Nat.add_sub_cancel] at h2
  rw [← Nat.add_assoc]
  apply nb_eq
  · rw [Nat.pow_add, ← Ba_pow, hs]
    have := Nat.mul_le_mul_left (Ba ^ m) h2
    omega
  · rw [Nat.add_assoc, Nat.pow_add, ← Ba_pow, hs]
    have := Nat.mul_le_mul_left (Ba ^ m) (show x + 1 ≤ 2 ^ (k + 1) from h1)
    rw [Nat.mul_add, Nat.mul_one] at this
    omega
end Gm

set_option maxHeartbeats 400000 in
theorem Bits_c (A : Option Addr) (xs : List Nat) (c : Nat) (w : World) (h : Lim w A c xs) (hs : xs.length ≤ 70368744177664) :
    Calls Try.prog 73 #[.slice A xs.length c] w fun e w' => e = .returned (.int .i64 ((nb (val xs) : Nat) : Int)) ∧ w = w' := by
  have la := limbs_length_le h.lb
  by_cases h0 : val xs = 0
  · have hl : (limbs (val xs)).length = 0 := by rw [h0, limbs_zero]; rfl
    have HN := Lib.hid (show nb (val xs) = 0 by rw [h0, nb_zero])
    have HL := Lib.hid hl
    clear hl h0
    go_enter Try.func73, Try.ntmps73
    go_wp2_with fail
    refine (cut_c _ _ _ _ h).mono ?_
    rintro e w' ⟨rfl, rfl⟩
    rw [HL.out]
    go_wp2_with fail
    go_ret
    exact ⟨by rw [HN.out]; rfl, rfl⟩
  · have htop := limbs_last h0
    have hp : 0 < (limbs (val xs)).length := List.length_pos_iff.2 (fun e => h0 (limbs_eq_nil.1 e))
    have hc := h.cut
    have EV := val_limbs (val xs)
    have hb := Lb_limbs (val xs)
    obtain ⟨us, eus⟩ : ∃ us, limbs (val xs) = us := ⟨_, rfl⟩
    rw [eus] at htop hp hc EV hb la
    obtain ⟨m, em⟩ : ∃ m, us.length = m + 1 := ⟨us.length - 1, by omega⟩
    rw [em, Nat.add_sub_cancel] at htop
    have hn := nb_val hb em htop
    rw [EV] at hn
    obtain ⟨b, o, rfl, hbl, hcell⟩ := hc.at_ (by omega)
    have hx := hcell m (by omega)
    have bx : us[m]?.getD 0 < 4294967296 := hb.get m
    obtain ⟨x, ex⟩ : ∃ x, us[m]?.getD 0 = x := ⟨_, rfl⟩
    rw [ex] at hx bx hn
    have hnx : nb x ≤ 32 := nb_le bx
    have hm : m ≤ 70368744177664 := by omega
    have EM := Lib.hid (show (limbs (val xs)).length = m + 1 by rw [eus, em])
    have HN := Lib.hid hn
    have hne : (((m : Int) + 1) == 0) = false := by rw [beq_eq_false_iff_ne]; omega
    clear eus em htop hn ex hcell EV hc hp la
    go_enter Try.func73, Try.ntmps73
    go_wp2_with fail
    refine (cut_c _ _ _ _ h).mono ?_
    rintro e w' ⟨rfl, rfl⟩
    rw [EM.out]
    go_wp2_with fail
    refine (Len32_n x _ bx).mono ?_
    rintro e w' ⟨rfl, rfl⟩
    generalize nb x = y at *
    go_wp2_with fail
    go_ret
    exact ⟨by rw [HN.out]; exact congrArg (fun z => Ending.returned (.int .i64 z)) (by omega), rfl⟩

section
variable (A : Option Addr) (xs : List Nat) (c : Nat) (w : World) (m : Nat) (K : Nat)
theorem Bits_n (y : Nat) (K : Nat) (ha : Lim w A c xs) (hs : xs.length ≤ K) (hm : val xs = m) (h : nb m = y) (hK : K ≤ 70368744177664) :
    Calls Try.prog 73 #[.slice A xs.length c] w (RetI w (y : Int)) := by
  subst hm h
  refine (Bits_c A xs c w ha (by omega)).mono ?_
  rintro e w' ⟨rfl, rfl⟩
  exact ⟨rfl, Below.refl _ _⟩
/-- what Uint64 returns -/
def RetU (w : World) (v : Int) (b : Bool) (e : Ending) (w' : World) : Prop := e = .returned (.tuple #[.int .u64 v, .bool b]) ∧ Below w.heap.size w w'
theorem U64Y_n (ha : Lim w A c xs) (hm : val xs = m) (h : m < Ba * Ba) : Calls Try.prog 78 #[.slice A xs.length c] w (RetU w (m : Int) true) := by
  subst hm
  refine (Uint64_yes A xs c w ha h).mono ?_
  rintro e w' ⟨rfl, rfl⟩
  exact ⟨rfl, Below.refl _ _⟩
theorem U64N_n (ha : Lim w A c xs) (hm : val xs = m) (h : Ba * Ba ≤ m) : Calls Try.prog 78 #[.slice A xs.length c] w (RetU w 0 false) := by
  subst hm
  refine (Uint64_no A xs c w ha h).mono ?_
  rintro e w' ⟨rfl, rfl⟩
  exact ⟨rfl, Below.refl _ _⟩
theorem rU64Y_n (K : Nat) (ha : Lim w A c xs) (hs : xs.length ≤ K) (hm : val xs = m) (h : m < Ba * Ba) (hK : K ≤ 70368744177664) : Calls Try.prog 108 #[.slice A xs.length c] w (RetU w (m : Int) true) := by
  subst hm
  exact rUint64_yes A xs c w ha (by omega) h
theorem rU64N_n (K : Nat) (ha : Lim w A c xs) (hs : xs.length ≤ K) (hm : val xs = m) (h : Ba * Ba ≤ m) (hK : K ≤ 70368744177664) : Calls Try.prog 108 #[.slice A xs.length c] w (RetU w 0 false) := by
  subst hm
  exact rUint64_no A xs c w ha (by omega) h
end
theorem cmpN_flip (a b : Nat) : cmpN b a = - cmpN a b := by unfold cmpN; split <;> split <;> (try split) <;> (try split) <;> omega
theorem cmpN_addr {a b c s t : Nat} (h1 : a + c = s) (h2 : b + c = t) : cmpN s t = cmpN a b := by subst h1 h2; unfold cmpN; split <;> split <;> (try split) <;> (try split) <;> omega
theorem cmpN_mulr {a b c s t : Nat} (h0 : 0 < c) (h1 : a * c = s) (h2 : b * c = t) : cmpN s t = cmpN a b := by
  subst h1 h2
  unfold cmpN
  simp only [Nat.mul_lt_mul_right h0]

/- Contracts of package natural: the shift to the left. -/

theorem shl_all (V n d s : Nat) (hd : n / 32 = d) (hs : n % 32 = s) : V * 2 ^ n = Ba ^ d * (V * 2 ^ s) := by
  rw [pow_split n, hd, hs]; grind

/-- s[d:] of a row -/
theorem slice_from (g N d m : Nat) (h : d < N) (hm : N - d = m) (u : World) : (Instr.sliceAt 22 (.slice (some ⟨g, 0, none⟩) N N) (some (.int .i64 (d : Int))) none none).run Try.prog u = .ok (.slice (some ⟨g, d, none⟩) m m) u := by
  subst hm
  have i1 : ¬ N = d := by omega
  go_simp
  intro hc
  omega

set_option maxRecDepth 100000 in
set_option maxHeartbeats 400000 in
theorem ShiftRight_no (A : Option Addr) (xs : List Nat) (c : Nat) (n : Int) (w : World) (hn : n < 0) :
    Calls Try.prog 115 #[.slice A xs.length c, .int .i64 n] w (RetNoB w) := by
  go_enter Try.func115, Try.ntmps115
  go_wp2
  go_ret2
  exact ⟨rfl, Below.refl _ _⟩
section
variable (A : Option Addr) (xs : List Nat) (c : Nat) (w : World) (m s n K : Nat)
theorem ShiftRight_n (ha : Lim w A c xs) (hs : xs.length ≤ K) (hm : val xs = m) (h : m / 2 ^ n = s) (hn : n ≤ 9223372036854775807) (hK : K ≤ 70368744177664) :
    Calls Try.prog 115 #[.slice A xs.length c, .int .i64 (n : Int)] w (RetNatOk w s) := by
  subst hm h; exact ShiftRight_c A xs c n w ha (by omega) hn
end
theorem nb_pow (n : Nat) : nb (2 ^ n) = n + 1 := nb_eq (Nat.le_refl _) (Nat.pow_lt_pow_right (by decide) (by omega))
theorem shl_sz {m n s k : Nat} (hm : (limbs m).length ≤ k) (h : m * 2 ^ n = s) (hn : n ≤ 255) : (limbs s).length ≤ k + 8 := by
  have h2 : (limbs (2 ^ n)).length ≤ 8 := limbs_length_lt (by
    rw [Ba_pow]; exact Nat.pow_lt_pow_right (by decide) (by omega))
  subst h
  have := limbs_mul_le m (2 ^ n)
  omega

end Go.Proofs.Ytdcofnjekdkifaa
