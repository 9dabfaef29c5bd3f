/- Contracts of the reference of layer 1: binary digits, division. -/
import Derived.Test.YtaeidephegnkdaaNatP
namespace Gm
/-- a step of the division in the binary system -/
theorem bin_step {A k : Nat} : A / 2 ^ k = 2 * (A / 2 ^ (k + 1)) + A / 2 ^ k % 2 := by
  rw [Nat.pow_succ, ← Nat.div_div_eq_div_mul]; omega
theorem bin_no {X B t : Nat} (hB : 0 < B) (h : 2 * (X % B) + t < B) : (2 * X + t) % B = 2 * (X % B) + t ∧ (2 * X + t) / B = 2 * (X / B) := by
  have h1 := Nat.mod_add_div X B
  have h2 := (Nat.div_mod_unique (a := 2 * X + t) (c := 2 * (X % B) + t) (d := 2 * (X / B)) hB).2 ⟨by
    generalize X % B = r at *
    generalize X / B = q at *
    rw [← h1]; grind, h⟩
  exact ⟨h2.2, h2.1⟩
theorem bin_yes {X B t : Nat} (hB : 0 < B) (ht : t ≤ 1) (h : B ≤ 2 * (X % B) + t) : (2 * X + t) % B = 2 * (X % B) + t - B ∧ (2 * X + t) / B = 2 * (X / B) + 1 := by
  have h1 := Nat.mod_add_div X B
  have h3 := Nat.mod_lt X hB
  have h2 := (Nat.div_mod_unique (a := 2 * X + t) (c := 2 * (X % B) + t - B) (d := 2 * (X / B) + 1) hB).2 ⟨by
    generalize X % B = r at *
    generalize X / B = q at *
    have e : B * (2 * q + 1) = B * q + B * q + B := by grind
    rw [e]; omega, by omega⟩
  exact ⟨h2.2, h2.1⟩
theorem or_bit {x t s : Nat} (hx : x = 2 ^ (s + 1) * t) : x ||| 2 ^ s = x + 2 ^ s := by
  have h3 := Nat.shiftLeft_add_eq_or_of_lt (show 2 ^ s < 2 ^ (s + 1) from Nat.pow_lt_pow_right (by decide) (by omega)) t
  rw [Nat.shiftLeft_eq, Nat.mul_comm] at h3
  rw [hx, h3]
/-- setting a binary digit of a row whose lower digits are 0 -/
theorem set_bit {qs : List Nat} {d s Y : Nat} (hq : Lb qs) (hd : d < qs.length) (hs : s < 32) (hv : val qs = Y * 2 ^ (32 * d + s + 1)) :
    (∃ t, qs[d]?.getD 0 = 2 ^ (s + 1) * t) ∧ qs[d]?.getD 0 + 2 ^ s < Ba ∧ val (qs.set d (qs[d]?.getD 0 + 2 ^ s)) = val qs + 2 ^ (32 * d + s) := by
  have h1 := val_div qs hq d (by omega)
  rw [val_drop hd] at h1
  have hx := hq.get d
  have e1 : val qs = Ba ^ d * (2 ^ (s + 1) * Y) := by rw [hv, Ba_pow, Nat.add_assoc, Nat.pow_add]; grind
  have e2 : val qs / Ba ^ d = 2 ^ (s + 1) * Y := by rw [e1, Nat.mul_div_cancel_left _ (Nat.pow_pos Ba_pos)]
  have hp : 2 ^ (s + 1) * 2 ^ (31 - s) = Ba := by rw [← Nat.pow_add, show s + 1 + (31 - s) = 32 by omega]; rfl
  rw [e2] at h1
  have e := val_set (qs[d]?.getD 0 + 2 ^ s) hd
  generalize qs[d]?.getD 0 = x at *
  have hdv : 2 ^ (s + 1) ∣ x := by
    have h2 : 2 ^ (s + 1) ∣ x + Ba * val (qs.drop (d + 1)) := ⟨Y, h1.symm⟩
    have h3 : 2 ^ (s + 1) ∣ Ba * val (qs.drop (d + 1)) := ⟨2 ^ (31 - s) * val (qs.drop (d + 1)), by rw [← Nat.mul_assoc, hp]⟩
    exact (Nat.dvd_add_left h3).1 h2
  obtain ⟨t, ht⟩ := hdv
  refine ⟨⟨t, ht⟩, ?_, ?_⟩
  · have h4 : 2 ^ (s + 1) * t < 2 ^ (s + 1) * 2 ^ (31 - s) := by rw [hp, ← ht]; exact hx
    have h5 : t < 2 ^ (31 - s) := Nat.lt_of_mul_lt_mul_left h4
    have h6 : 2 ^ (s + 1) * (t + 1) ≤ Ba := by rw [← hp]; exact Nat.mul_le_mul_left _ h5
    rw [Nat.mul_add, Nat.mul_one, ← ht, Nat.pow_succ] at h6
    have : 0 < 2 ^ s := Nat.pow_pos (by decide)
    omega
  · rw [Nat.mul_add] at e
    rw [Nat.pow_add 2 (32 * d) s, ← Ba_pow]
    omega
end Gm
namespace Go.Proofs.Ytaeidephegnkdaa
open Go.RowKit Gm

set_option maxHeartbeats 1000000 in
theorem rBits_c (A : Option Addr) (xs : List Nat) (c : Nat) (w : World) (h : Lim w A c xs) (hs : xs.length ≤ 70368744177664) :
    Calls Try.prog 116 #[.slice A xs.length c] w (RetI w ((nb (val xs) : Nat) : Int)) := by
  have la := limbs_length_le h.lb
  by_cases h0 : val xs = 0
  · have hl : (limbs (val xs)).length = 0 := by rw [h0, limbs_zero]; rfl
    have HN := Lib.hid (show nb (val xs) = 0 by rw [h0, nb_zero])
    have HL := Lib.hid hl
    clear hl h0
    go_enter Try.func116, Try.ntmps116
    go_wp2_with fail
    refine (rTrim_c _ _ _ _ h hs).mono ?_
    rintro e w1 ⟨A1, c1, rfl, r1, b1⟩
    rw [HL.out]
    go_wp2_with fail
    go_ret
    exact ⟨by rw [HN.out]; rfl, b1⟩
  · have htop := limbs_last h0
    have hp : 0 < (limbs (val xs)).length := List.length_pos_iff.2 (fun e => h0 (limbs_eq_nil.1 e))
    have EV := val_limbs (val xs)
    have hb := Lb_limbs (val xs)
    go_enter Try.func116, Try.ntmps116
    go_wp2_with fail
    refine (rTrim_c _ _ _ _ h hs).mono ?_
    rintro e w1 ⟨A1, c1, rfl, r1, b1⟩
    obtain ⟨us, eus⟩ : ∃ us, limbs (val xs) = us := ⟨_, rfl⟩
    rw [eus] at htop hp EV hb la r1 ⊢
    obtain ⟨m, em⟩ : ∃ m, us.length = m + 1 := ⟨us.length - 1, by omega⟩
    rw [em, Nat.add_sub_cancel] at htop
    have hn := nb_val hb em htop
    rw [EV] at hn
    obtain ⟨b, o, rfl, hbl, hcell⟩ := r1.lim.at_ (by omega)
    have hx := hcell m (by omega)
    have bx : us[m]?.getD 0 < 4294967296 := hb.get m
    obtain ⟨x, ex⟩ : ∃ x, us[m]?.getD 0 = x := ⟨_, rfl⟩
    rw [ex] at hx bx hn
    have hnx : nb x ≤ 32 := nb_le bx
    have hm : m ≤ 70368744177664 := by omega
    have HN := Lib.hid hn
    have hne : (((m : Int) + 1) == 0) = false := by rw [beq_eq_false_iff_ne]; omega
    rw [em]
    clear eus em htop hn ex hcell EV hp la
    go_wp2_with fail
    go_loop [3, 4] (fun t v => ∃ k y : Nat, t = .int .i64 k ∧ v = .int .u32 y ∧ y < 4294967296 ∧ k ≤ 32 * m + 32 ∧ Hid (k + nb y = nb (val xs))) (fun _ v => (intOf v).toNat)
    case atStart => exact ⟨32 * m, x, by go_num, rfl, bx, by omega, Lib.hid HN.out.symm⟩
    case round =>
      obtain ⟨k, y, rfl, rfl, hy, hk, hH⟩ := hrel
      by_cases hy0 : y = 0
      · subst hy0
        have HE := Lib.hid (show nb (val xs) = k by have := hH.out; rw [nb_zero] at this; omega)
        go_wp2
        go_ret
        exact ⟨by rw [HE.out]; rfl, b1⟩
      · have hpos : (0 : Int) < (y : Int) := by omega
        have hnb := nb_pos hy0
        have hb2 : nb (val xs) ≤ 32 * m + 32 := by rw [HN.out]; omega
        have HE : Hid ((k + 1) + nb (y / 2) = nb (val xs)) := Lib.hid (by have := hH.out; omega)
        have hk2 : k + 1 ≤ 32 * m + 32 := by have := HE.out; omega
        clear hnb hb2
        go_wp2
        go_round
        case rel => exact ⟨k + 1, y / 2, by go_num, by go_num, by omega, hk2, HE⟩
        case measure => simp [intOf]; omega

set_option maxHeartbeats 1000000 in
theorem bit_c (A : Option Addr) (xs : List Nat) (c i : Nat) (w : World) (h : Lim w A c xs) (hi : i ≤ 9223372036854775807) :
    Calls Try.prog 117 #[.slice A xs.length c, .int .i64 (i : Int)] w fun e w' => e = .returned (.int .u32 ((val xs / 2 ^ i % 2 : Nat) : Int)) ∧ w = w' := by
  obtain ⟨d, hd⟩ : ∃ d, i / 32 = d := ⟨_, rfl⟩
  obtain ⟨s, hs⟩ : ∃ s, i % 32 = s := ⟨_, rfl⟩
  have e1 : (i : Int) / 32 = (d : Int) := by omega
  have e2 : (i : Int) % 32 = (s : Int) := by omega
  have e3 : (i : Int).tmod 32 = (s : Int) := by rw [Int.tmod_eq_emod_of_nonneg (by omega)]; exact e2
  have h32 : s < 32 := by omega
  rcases Nat.lt_or_ge d xs.length with hlt | hge
  · have hv := shr_all h.lb hd hs (Nat.le_of_lt hlt)
    rw [hv, val_drop hlt]
    obtain ⟨b, o, rfl, hbl, hcell⟩ := h.at_ (by omega)
    have hx := hcell d hlt
    have bx : xs[d]?.getD 0 < 4294967296 := h.lb.get d
    obtain ⟨x, ex⟩ : ∃ x, xs[d]?.getD 0 = x := ⟨_, rfl⟩
    rw [ex] at hx bx ⊢
    have hmod : (x + Ba * val (xs.drop (d + 1))) / 2 ^ s % 2 = x / 2 ^ s % 2 := by
      have hp : 2 ^ s * 2 ^ (31 - s) * 2 = Ba := by rw [← Nat.pow_add, ← Nat.pow_succ, show (s + (31 - s)).succ = 32 by omega]; rfl
      rw [show x + Ba * val (xs.drop (d + 1)) = x + 2 ^ s * (2 ^ (31 - s) * val (xs.drop (d + 1)) * 2) by rw [← hp]; grind, Nat.add_mul_div_left _ _ (Nat.pow_pos (by decide)), Nat.add_mul_mod_self_right]
    rw [hmod]
    have hge' : ¬ (xs.length : Int) ≤ (d : Int) := by omega
    have hand : bits .and .u32 ((x : Int) / 2 ^ s) 1 = ((x / 2 ^ s % 2 : Nat) : Int) := by
      have h1 : (x : Int) / 2 ^ s = ((x / 2 ^ s : Nat) : Int) := by simp
      have h2 := u32_and_nat (x / 2 ^ s) 1 (Nat.lt_of_le_of_lt (Nat.div_le_self _ _) bx) (by decide)
      rw [Nat.and_one_is_mod] at h2
      rw [h1]; exact h2
    obtain ⟨y, ey⟩ : ∃ y, x / 2 ^ s % 2 = y := ⟨_, rfl⟩
    rw [ey] at hand ⊢
    clear hd hs hv ex hcell hmod h ey
    go_enter Try.func117, Try.ntmps117
    go_wp2_with fail
    go_ret
    exact ⟨rfl, rfl⟩
  · have hz : val xs / 2 ^ i = 0 := shr_zero h.lb (by omega)
    rw [hz]
    clear hz hd hs
    have hge' : (xs.length : Int) ≤ (d : Int) := by omega
    go_enter Try.func117, Try.ntmps117
    go_wp2_with fail
    go_ret
    exact ⟨rfl, rfl⟩

theorem or_bit32 (x s t : Nat) (hx : x = 2 ^ (s + 1) * t) (hb : x + 2 ^ s < Ba) : bits .or .u32 (x : Int) (2 ^ s % 4294967296) = ((x + 2 ^ s : Nat) : Int) := by
  have h1 : (2 : Int) ^ s % 4294967296 = ((2 ^ s : Nat) : Int) := by
    have h2 : (2 : Int) ^ s = ((2 ^ s : Nat) : Int) := by simp
    have h3 : 2 ^ s < 4294967296 := Nat.lt_of_le_of_lt (Nat.le_add_left _ _) hb
    rw [h2]
    generalize 2 ^ s = P at h3 ⊢
    omega
  rw [Ba_eq] at hb
  rw [h1, u32_or_nat x (2 ^ s) (Nat.lt_of_le_of_lt (Nat.le_add_right _ _) hb) (Nat.lt_of_le_of_lt (Nat.le_add_left _ _) hb), or_bit hx]

set_option maxHeartbeats 1000000 in
theorem rDivMod_zero (A B : Option Addr) (xs ys : List Nat) (c d : Nat) (w : World) (hb : Lim w B d ys) (ht : ys.length ≤ 70368744177664) (h0 : val ys = 0) : Calls Try.prog 101 #[.slice A xs.length c, .slice B ys.length d] w (RetDivNoB w) := by
  have hl : (limbs (val ys)).length = 0 := by rw [h0, limbs_zero]; rfl
  have HL := Lib.hid hl
  clear hl h0
  go_enter Try.func101, Try.ntmps101
  go_wp2_with fail
  refine (rTrim_c _ _ _ _ hb ht).mono ?_
  rintro e w1 ⟨A1, c1, rfl, r1, b1⟩
  rw [HL.out]
  go_wp2
  go_ret3
  exact ⟨rfl, b1⟩

set_option maxHeartbeats 1000000 in
theorem rDivMod_small (A B : Option Addr) (xs ys : List Nat) (c d : Nat) (w : World) (ha : Lim w A c xs) (hb : Lim w B d ys) (hs : xs.length ≤ 70368744177664) (ht : ys.length ≤ 70368744177664) (h0 : val ys ≠ 0) (h1 : val xs < Ba * Ba) (h2 : val ys < Ba * Ba) :
    Calls Try.prog 101 #[.slice A xs.length c, .slice B ys.length d] w (RetDiv w (val xs / val ys) (val xs % val ys)) := by
  have lne : (((limbs (val ys)).length : Int) == 0) = false := by
    rw [beq_eq_false_iff_ne]
    intro e
    exact h0 (limbs_eq_nil.1 (List.eq_nil_of_length_eq_zero (by omega)))
  have lb := limbs_length_le hb.lb
  go_enter Try.func101, Try.ntmps101
  go_wp2_with fail
  refine (rTrim_c _ _ _ _ hb ht).mono ?_
  rintro e w1 ⟨A1, c1, rfl, r1, b1⟩
  go_wp2_with fail
  refine (rUint64_yes _ _ _ _ (ha.below b1) hs h1).mono ?_
  rintro e w2 ⟨rfl, b2⟩
  go_wp2_with fail
  refine (rUint64_yes _ _ _ _ (r1.lim.below b2) (by omega) (by rw [val_limbs]; exact h2)).mono ?_
  rintro e w3 ⟨rfl, b3⟩
  rw [val_limbs]
  have hB : Ba * Ba = 18446744073709551616 := by decide
  rw [hB] at h1 h2
  have hq : val xs / val ys < Ba * Ba := Nat.lt_of_le_of_lt (Nat.div_le_self _ _) (by rw [hB]; exact h1)
  have hr : val xs % val ys < Ba * Ba := Nat.lt_of_le_of_lt (Nat.mod_le _ _) (by rw [hB]; exact h1)
  have hbel : Below w.heap.size w w3 := (b1.trans (b2.mono b1.size)).trans (b3.mono (Nat.le_trans b1.size b2.size))
  clear hB b1 b2 b3 r1
  have hne : ((val ys : Int) == 0) = false := by rw [beq_eq_false_iff_ne]; omega
  have e3 : ((val xs : Nat) : Int).tmod (val ys : Nat) = ((val xs % val ys : Nat) : Int) := by rw [Int.tmod_eq_emod_of_nonneg (by omega)]; rfl
  have e4 : ((val xs : Nat) : Int).tdiv (val ys : Nat) = ((val xs / val ys : Nat) : Int) := by rw [Int.tdiv_eq_ediv_of_nonneg (by omega)]; rfl
  obtain ⟨X, eX⟩ : ∃ X, val xs = X := ⟨_, rfl⟩
  obtain ⟨Y, eY⟩ : ∃ Y, val ys = Y := ⟨_, rfl⟩
  rw [eX, eY] at e3 e4 hq hr
  rw [eX] at h1
  rw [eY] at h2 hne h0
  rw [eX, eY]
  obtain ⟨Q, eQ⟩ : ∃ Q, X / Y = Q := ⟨_, rfl⟩
  obtain ⟨T, eT⟩ : ∃ T, X % Y = T := ⟨_, rfl⟩
  rw [eQ] at e4 hq ⊢
  rw [eT] at e3 hr ⊢
  have w1' : IntKind.u64.wrap (Q : Int) = (Q : Int) := by
    have hB : Ba * Ba = 18446744073709551616 := by decide
    rw [IntKind.wrap_u64]; omega
  have HQ := Lib.hid (show val xs / val ys = Q by rw [eX, eY, eQ])
  have HT := Lib.hid (show val xs % val ys = T by rw [eX, eY, eT])
  clear eQ eT lne eX eY
  go_wp2_with fail
  go_region_held3 (fun _ => True) (first | trivial | go_keep)
    (first
      | (go_at_call_of 55 (Value.int .u64 (Q : Int)); refine (rFromUint64_c Q _ hq).mono ?_; rintro e w4 ⟨A4, c4, rfl, r4, b4⟩)
      | (go_at_call_of 55 (Value.int .u64 (T : Int)); refine (rFromUint64_c T _ hr).mono ?_; rintro e w5 ⟨A5, c5, rfl, r5, b5⟩))
  have hz4 : w.heap.size ≤ w4.heap.size := Nat.le_trans hbel.size b4.size
  have h4 := (r4.below b5).mono (lo' := w.heap.size) hbel.size
  have h5 := r5.mono (lo' := w.heap.size) hz4
  have h6 : Below w.heap.size w w5 := (hbel.drew.trans (b4.mono hbel.size)).trans (b5.mono hz4)
  clear r4 r5 b4 b5
  go_wp2
  go_ret3
  rw [HQ.out, HT.out]
  exact ⟨A4, c4, A5, c5, rfl, h4, h5, h6⟩

theorem rTrim_k (A : Option Addr) (xs : List Nat) (c k n : Nat) (w : World) (h : Lim w A c xs) (hk : xs.length = k) (hs : k ≤ 70368744177664) (hv : val xs = n) :
    Calls Try.prog 86 #[.slice A k c] w (RetNat w n) := by
  subst hk hv; exact rTrim_c A xs c w h hs
theorem Own.put1 {lo N i : Nat} {w : World} {A : Option Addr} {c : Nat} {xs : List Nat} (h : Own lo w A c xs) (hN : N < lo) (u : Value) : Own lo (w.setCell ⟨N, i, none⟩ u) A c xs :=
  ⟨h.lb, h.cap, h.max, fun h0 => by
    obtain ⟨b, off, e, hl, hlt, hc⟩ := h.cells h0
    have hne : b ≠ N := by omega
    have hh := Below.heap_setCell w ⟨N, i, none⟩ u b hne
    refine ⟨b, off, e, hl, by simpa [World.setCell] using hlt, fun k hk => ?_⟩
    obtain ⟨h1, h2⟩ := hc k hk
    exact ⟨by rw [← h1]; simp only [World.cell?, hh], by rw [← h2]; simp only [World.frozen?, hh]⟩⟩
theorem Add_n' (A : Option Addr) (xs : List Nat) (c : Nat) (w : World) (m : Nat) (ha : Lim (w.alloc (.cells (cellsOf [1]) 40)) A c xs) (hs : xs.length ≤ 70368744177661) (hm : val xs = m) :
    Calls Try.prog 103 #[.slice A xs.length c, .slice (some ⟨w.heap.size, 0, none⟩) 1 1] (w.alloc (.cells (cellsOf [1]) 40)) (RetNat (w.alloc (.cells (cellsOf [1]) 40)) (m + 1)) := by
  subst hm
  exact rAdd_c A _ xs [1] c 1 _ ha (lit1 w [1] (Lb_lit _ (by decide)) (by decide)) (by omega) (by decide)
/-- what the loop of the binary division keeps -/
structure Bn (A B k r : Nat) (qs : List Nat) : Prop where
  rem : r = A / 2 ^ k % B
  quo : val qs = A / 2 ^ k / B * 2 ^ k
theorem Bn.r_lt {A B k r : Nat} {qs : List Nat} (h : Bn A B k r qs) (hB : 0 < B) : r < B := by rw [h.rem]; exact Nat.mod_lt _ hB
theorem Bn.no {A B k r t : Nat} {qs : List Nat} (h : Bn A B (k + 1) r qs) (hB : 0 < B) (ht : A / 2 ^ k % 2 = t) (hlt : 2 * r + t < B) : Bn A B k (2 * r + t) qs := by
  have hs := bin_step (A := A) (k := k)
  rw [ht] at hs
  rw [h.rem] at hlt ⊢
  obtain ⟨h1, h2⟩ := bin_no hB hlt
  rw [← hs] at h1 h2
  refine ⟨h1.symm, ?_⟩
  rw [h.quo, h2, Nat.pow_succ]; grind
theorem Bn.yes {A B k r t : Nat} {qs ps : List Nat} (h : Bn A B (k + 1) r qs) (hB : 0 < B) (ht : A / 2 ^ k % 2 = t) (hge : B ≤ 2 * r + t) (hp : val ps = val qs + 2 ^ k) : Bn A B k (2 * r + t - B) ps := by
  have hs := bin_step (A := A) (k := k)
  rw [ht] at hs
  have ht1 : t ≤ 1 := by omega
  rw [h.rem] at hge ⊢
  obtain ⟨h1, h2⟩ := bin_yes hB ht1 hge
  rw [← hs] at h1 h2
  refine ⟨h1.symm, ?_⟩
  rw [hp, h.quo, h2, Nat.pow_succ]; grind
theorem Bn.start {A B : Nat} {qs : List Nat} (h : val qs = 0) : Bn A B (nb A) 0 qs := by
  have : A / 2 ^ nb A = 0 := Nat.div_eq_of_lt (nb_lt A)
  exact ⟨by rw [this]; simp, by rw [this, h]; simp⟩
theorem Bn.finish {A B r : Nat} {qs : List Nat} (h : Bn A B 0 r qs) : val qs = A / B ∧ r = A % B := by
  have h1 := h.quo
  have h2 := h.rem
  simp at h1 h2
  exact ⟨h1, h2⟩
theorem nb_len {xs : List Nat} (h : Lb xs) : nb (val xs) ≤ 32 * xs.length := nb_le (by rw [← Ba_pow]; exact val_lt h)

set_option maxHeartbeats 4000000 in
set_option maxRecDepth 100000 in
theorem rDivMod_big (A B : Option Addr) (xs ys : List Nat) (c d : Nat) (w : World) (ha : Lim w A c xs) (hb : Lim w B d ys) (hs : xs.length ≤ 70368744177660) (ht : ys.length ≤ 70368744177660) (h0 : val ys ≠ 0) (u v : Int) (p q : Bool) (hpq : (p && q) = false)
    (hU : ∀ W, Lim W A c xs → Calls Try.prog 115 #[.slice A xs.length c] W (RetU W u p))
    (hV : ∀ W A1 c1, Lim W A1 c1 (limbs (val ys)) → Calls Try.prog 115 #[.slice A1 (limbs (val ys)).length c1] W (RetU W v q)) :
    Calls Try.prog 101 #[.slice A xs.length c, .slice B ys.length d] w (RetDiv w (val xs / val ys) (val xs % val ys)) := by
  have lne : (((limbs (val ys)).length : Int) == 0) = false := by
    rw [beq_eq_false_iff_ne]
    intro e
    exact h0 (limbs_eq_nil.1 (List.eq_nil_of_length_eq_zero (by omega)))
  have lb := limbs_length_le hb.lb
  have hnl := nb_len ha.lb
  have hmk := mk_run (↑xs.length) xs.length rfl (by omega)
  have HU := Lib.hid hU
  have HV := Lib.hid hV
  clear hU hV
  go_enter Try.func101, Try.ntmps101
  go_wp2_with fail
  refine (rTrim_c _ _ _ _ hb (by omega)).mono ?_
  rintro e w1 ⟨A1, c1, rfl, r1, b1⟩
  go_wp2_with fail
  refine (HU.out w1 (ha.below b1)).mono ?_
  rintro e w2 ⟨rfl, b2⟩
  have r1' := r1.lim.below b2
  go_wp2_with fail
  refine (HV.out w2 _ _ r1').mono ?_
  rintro e w3 ⟨rfl, b3⟩
  have hbel : Below w.heap.size w w3 := (b1.trans (b2.mono b1.size)).trans (b3.mono (Nat.le_trans b1.size b2.size))
  have ha3 := ha.below hbel
  have hy3 := r1'.below b3
  clear b1 b2 b3 r1 r1' HU HV ha hb
  have ha4 := ha3.below (bel1 w3 (.cells (cellsOf (zeros xs.length)) 40))
  have hcase : p = false ∨ (p = true ∧ q = false) := by cases p <;> cases q <;> simp_all
  rcases hcase with rfl | ⟨rfl, rfl⟩
  all_goals
    clear hpq
    go_wp2_with fail
    refine (rBits_c A xs c _ ha4 (by omega)).mono ?_
    rintro e w4 ⟨rfl, b4⟩
    have hrow : Row w4 w3.heap.size (zeros xs.length) := (Row.new w3 (zeros xs.length)).below b4 (by simp)
    have hb34 : Below w3.heap.size w3 w4 := (bel1 w3 _).trans (b4.mono (bel1 w3 _).size)
    clear ha4 b4 hmk lne
    have hst := Bn.start (A := val xs) (B := val ys) (zeros_val xs.length)
    have HST := Lib.hid hst
    clear hst
    obtain ⟨N, eN⟩ : ∃ N, nb (val xs) = N := ⟨_, rfl⟩
    rw [eN] at hnl HST ⊢
    clear eN
    have hg : w.heap.size ≤ w3.heap.size := hbel.size
    go_wp2_with fail
    go_loopw [5, 11] (fun r i wr => ∃ (k rv cr : Nat) (Ar : Option Addr) (qs : List Nat), k ≤ N ∧ i = .int .i64 ((k : Int) - 1) ∧ r = .slice Ar (limbs rv).length cr ∧ Own (w3.heap.size + 1) wr Ar cr (limbs rv) ∧ qs.length = xs.length ∧ Lb qs ∧ Row wr w3.heap.size qs ∧ Below w3.heap.size w3 wr ∧ Hid (Bn (val xs) (val ys) k rv qs)) (fun _ i _ => (intOf i + 1).toNat)
    case atStart => exact ⟨N, 0, 0, none, zeros xs.length, Nat.le_refl _, rfl, by rw [limbs_zero]; rfl, by rw [limbs_zero]; exact Own.nil _ _ _, zeros_length _, zeros_lb _, hrow, hb34, HST⟩
    case round =>
      obtain ⟨k, rv, cr, Ar, qs, hk, ei, rfl, hr, hql, hqb, hq, hbr, hBn⟩ := hrel
      have HQL := Lib.hid hql
      clear hql hrow HST hb34
      have hpos : 0 < val ys := by omega
      have hqlt := hq.lt
      rcases Nat.eq_zero_or_pos k with rfl | hp
      · subst ei
        obtain ⟨f1, f2⟩ := hBn.out.finish
        have HF1 := Lib.hid f1
        have HF2 := Lib.hid f2
        have hlq := (hq.lim hqb (by rw [HQL.out]; omega))
        have hzr : (limbs rv).length ≤ 70368744177664 := by
          rw [f2]; exact Nat.le_trans (limbs_mono (Nat.le_of_lt (Nat.mod_lt _ hpos))) (by omega)
        rw [HQL.out] at hlq
        clear f1 f2
        go_wp2_with fail
        refine (rTrim_k _ qs xs.length xs.length (val xs / val ys) wr hlq HQL.out (by omega) HF1.out).mono ?_
        rintro e w6 ⟨A6, c6, rfl, r6, b6⟩
        go_wp2_with fail
        refine (rTrim_k Ar (limbs rv) cr (limbs rv).length (val xs % val ys) w6 (hr.lim.below b6) rfl hzr (by rw [val_limbs]; exact HF2.out)).mono ?_
        rintro e w7 ⟨A7, c7, rfl, r7, b7⟩
        have hbr' : Below w.heap.size w wr := hbel.trans (hbr.mono hg)
        have h6 := (r6.below b7).mono (lo' := w.heap.size) hbr'.size
        have h7 := r7.mono (lo' := w.heap.size) (Nat.le_trans hbr'.size b6.size)
        have h8 : Below w.heap.size w w7 := (hbr'.trans (b6.mono hbr'.size)).trans (b7.mono (Nat.le_trans hbr'.size b6.size))
        clear r6 r7 b6 b7
        go_wp2
        go_ret3
        exact ⟨A6, c6, A7, c7, rfl, h6, h7, h8⟩
      · obtain ⟨i, rfl⟩ : ∃ i, k = i + 1 := ⟨k - 1, by omega⟩
        obtain rfl := ei.trans (show Value.int .i64 (((i + 1 : Nat) : Int) - 1) = .int .i64 (i : Int) by congr 1; omega)
        clear ei
        have hrlt := hBn.out.r_lt hpos
        have hrl : (limbs rv).length ≤ 70368744177660 := Nat.le_trans (limbs_mono (Nat.le_of_lt hrlt)) (by omega)
        have h2l : (limbs (rv + rv)).length ≤ 70368744177661 := limbs_add_le hrl hrl
        have h3l : (limbs (rv + rv + 1)).length ≤ 70368744177662 := limbs_add_le h2l (Nat.le_trans (limbs_len2 (by decide)) (by omega))
        have hyl : (limbs (val ys)).length ≤ 70368744177660 := by omega
        clear hp
        go_wp2_with fail
        refine (rAdd_c Ar Ar (limbs rv) (limbs rv) cr cr wr hr.lim hr.lim (by omega) (by omega)).mono ?_
        rintro e w6 ⟨A6, c6, rfl, r6, b6⟩
        rw [val_limbs] at r6 ⊢
        have hbr6 : Below w3.heap.size w3 w6 := hbr.trans (b6.mono hbr.size)
        go_wp2_with fail
        refine (bit_c A xs c i w6 (ha3.below hbr6) (by omega)).mono ?_
        rintro e w' ⟨rfl, rfl⟩
        have hno := hBn.out.no hpos rfl
        have hyes := fun ps => hBn.out.yes (ps := ps) hpos rfl
        have htl : val xs / 2 ^ i % 2 < 2 := Nat.mod_lt _ (by decide)
        obtain ⟨t, et⟩ : ∃ t, val xs / 2 ^ i % 2 = t := ⟨_, rfl⟩
        rw [et] at htl hno ⊢
        simp only [et] at hyes
        have HNO := Lib.hid hno
        have HYES := Lib.hid hyes
        clear et hno hyes
        have hd32 : (i : Int) / 32 = ((i / 32 : Nat) : Int) := by omega
        have hm32 : (i : Int) % 32 = ((i % 32 : Nat) : Int) := by omega
        have hm32' : (i : Int).tmod 32 = ((i % 32 : Nat) : Int) := by rw [Int.tmod_eq_emod_of_nonneg (by omega)]; exact hm32
        have hdl : i / 32 < xs.length := by omega
        have hsl : i % 32 < 32 := Nat.mod_lt _ (by decide)
        obtain ⟨⟨tt, htt⟩, hb1, hb2⟩ := set_bit (qs := qs) (d := i / 32) (s := i % 32) (Y := val xs / 2 ^ (i + 1) / val ys) hqb (by rw [HQL.out]; exact hdl) hsl (by rw [hBn.out.quo]; congr 2; omega)
        have hor := or_bit32 _ _ tt htt hb1
        rw [show 32 * (i / 32) + i % 32 = i by omega] at hb2
        obtain ⟨D, eD⟩ : ∃ D, i / 32 = D := ⟨_, rfl⟩
        obtain ⟨S, eS⟩ : ∃ S, i % 32 = S := ⟨_, rfl⟩
        rw [eD] at hd32 hdl hb1 hb2 hor
        rw [eS] at hm32 hm32' hsl hb1 hb2 hor
        obtain ⟨x, ex⟩ : ∃ x, qs[D]?.getD 0 = x := ⟨_, rfl⟩
        rw [ex] at hb1 hb2 hor
        obtain ⟨y, ey⟩ : ∃ y, x + 2 ^ S = y := ⟨_, rfl⟩
        rw [ey] at hb1 hb2 hor
        have EX := Lib.hid ex
        have HB2 := Lib.hid hb2
        have HB1 := Lib.hid hb1
        rw [Ba_eq] at hb1
        clear eD eS ex ey htt hb2
        have hq6 := hq.below b6 hqlt
        have hy6 := hy3.below hbr6
        have hl6 := r6.mono (lo' := w3.heap.size + 1) hqlt
        have hz6 : w3.heap.size + 1 ≤ w6.heap.size := Nat.le_trans hqlt b6.size
        have ht01 : t = 0 ∨ t = 1 := by omega
        clear hq hbr hr b6 r6 htl
        rcases ht01 with rfl | rfl
        · have e0 : 2 * rv + 0 = rv + rv := by omega
          have H0 := HNO.out
          have H1 := HYES.out
          rw [e0] at H0
          simp only [e0] at H1
          have HNO2 := Lib.hid H0
          have HYES2 := Lib.hid H1
          clear H0 H1 HNO HYES e0
          by_cases hfit : val ys ≤ rv + rv
          · go_wp2_with fail
            refine (rSub_ok A6 A1 (limbs (rv + rv)) (limbs (val ys)) c6 c1 w6 hl6.lim hy6 (by omega) (by omega) (by rw [val_limbs, val_limbs]; exact hfit)).mono ?_
            rintro e w8 ⟨A8, c8, rfl, r8, b8⟩
            rw [val_limbs, val_limbs] at r8 ⊢
            have hq8 := hq6.below b8 hq6.lt
            have hc8 := hq8.cell (i := D) (by rw [HQL.out]; exact hdl)
            have hf8 := hq8.frozen D
            rw [EX.out] at hc8
            have hput := hq8.put D y (z := (y : Int)) rfl
            have hBn2 := HYES2.out (qs.set D y) hfit HB2.out
            have HBN2 := Lib.hid hBn2
            clear hBn2
            go_wp2_with fail
            go_roundw
            case rel => exact ⟨i, _, _, _, qs.set D y, by omega, rfl, rfl, (r8.mono hz6).put1 (Nat.lt_succ_self _) _, by rw [List.length_set]; exact HQL.out, hqb.set _ _ HB1.out, hput, (hbr6.trans (b8.mono hbr6.size)).setCell (Nat.le_refl _) _, HBN2⟩
            case measure => simp [intOf]
          · have hBn2 := HNO2.out (by omega)
            have HBN2 := Lib.hid hBn2
            clear hBn2
            go_wp2_with fail
            refine (rSub_no A6 A1 (limbs (rv + rv)) (limbs (val ys)) c6 c1 w6 hl6.lim hy6 (by omega) (by omega) (by rw [val_limbs, val_limbs]; omega)).mono ?_
            rintro e w8 ⟨rfl, b8⟩
            go_wp2_with fail
            go_roundw
            case rel => exact ⟨i, _, _, _, qs, by omega, rfl, rfl, hl6.below b8, HQL.out, hqb, hq6.below b8 hq6.lt, hbr6.trans (b8.mono hbr6.size), HBN2⟩
            case measure => simp [intOf]
        · have e0 : 2 * rv + 1 = rv + rv + 1 := by omega
          have H0 := HNO.out
          have H1 := HYES.out
          rw [e0] at H0
          simp only [e0] at H1
          have HNO2 := Lib.hid H0
          have HYES2 := Lib.hid H1
          clear H0 H1 HNO HYES e0
          have b0 := bel1 w6 (.cells (cellsOf [1]) 40)
          go_wp2_with fail
          refine (Add_n' A6 (limbs (rv + rv)) c6 w6 (rv + rv) (hl6.lim.below b0) h2l (val_limbs _)).mono ?_
          rintro e w7 ⟨A7, c7, rfl, r7, b7⟩
          have b67 : Below w6.heap.size w6 w7 := b0.trans (b7.mono b0.size)
          have hbr7 := hbr6.trans (b67.mono hbr6.size)
          have hq7 := hq6.below b67 hq6.lt
          have hy7 := hy6.below b67
          have hz7 : w3.heap.size + 1 ≤ w7.heap.size := Nat.le_trans hz6 b67.size
          have hl7 := r7.mono (lo' := w3.heap.size + 1) (Nat.le_trans hz6 b0.size)
          clear hq6 hy6 hl6 hbr6 b0 b7 r7 b67
          by_cases hfit : val ys ≤ rv + rv + 1
          · go_wp2_with fail
            refine (rSub_ok A7 A1 (limbs (rv + rv + 1)) (limbs (val ys)) c7 c1 w7 hl7.lim hy7 (by omega) (by omega) (by rw [val_limbs, val_limbs]; exact hfit)).mono ?_
            rintro e w8 ⟨A8, c8, rfl, r8, b8⟩
            rw [val_limbs, val_limbs] at r8 ⊢
            have hq8 := hq7.below b8 hq7.lt
            have hc8 := hq8.cell (i := D) (by rw [HQL.out]; exact hdl)
            have hf8 := hq8.frozen D
            rw [EX.out] at hc8
            have hput := hq8.put D y (z := (y : Int)) rfl
            have hBn2 := HYES2.out (qs.set D y) hfit HB2.out
            have HBN2 := Lib.hid hBn2
            clear hBn2
            go_wp2_with fail
            go_roundw
            case rel => exact ⟨i, _, _, _, qs.set D y, by omega, rfl, rfl, (r8.mono hz7).put1 (Nat.lt_succ_self _) _, by rw [List.length_set]; exact HQL.out, hqb.set _ _ HB1.out, hput, (hbr7.trans (b8.mono hbr7.size)).setCell (Nat.le_refl _) _, HBN2⟩
            case measure => simp [intOf]
          · have hBn2 := HNO2.out (by omega)
            have HBN2 := Lib.hid hBn2
            clear hBn2
            go_wp2_with fail
            refine (rSub_no A7 A1 (limbs (rv + rv + 1)) (limbs (val ys)) c7 c1 w7 hl7.lim hy7 (by omega) (by omega) (by rw [val_limbs, val_limbs]; omega)).mono ?_
            rintro e w8 ⟨rfl, b8⟩
            go_wp2_with fail
            go_roundw
            case rel => exact ⟨i, _, _, _, qs, by omega, rfl, rfl, hl7.below b8, HQL.out, hqb, hq7.below b8 hq7.lt, hbr7.trans (b8.mono hbr7.size), HBN2⟩
            case measure => simp [intOf]

theorem rDivMod_c (A B : Option Addr) (xs ys : List Nat) (c d : Nat) (w : World) (ha : Lim w A c xs) (hb : Lim w B d ys) (hs : xs.length ≤ 70368744177660) (ht : ys.length ≤ 70368744177660) (h0 : val ys ≠ 0) :
    Calls Try.prog 101 #[.slice A xs.length c, .slice B ys.length d] w (RetDiv w (val xs / val ys) (val xs % val ys)) := by
  have lb := limbs_length_le hb.lb
  rcases Nat.lt_or_ge (val xs) (Ba * Ba) with h1 | h1
  · rcases Nat.lt_or_ge (val ys) (Ba * Ba) with h2 | h2
    · exact rDivMod_small A B xs ys c d w ha hb (by omega) (by omega) h0 h1 h2
    · exact rDivMod_big A B xs ys c d w ha hb hs ht h0 (val xs : Nat) 0 true false rfl (fun W hW => rU64Y_n A xs c W (val xs) 70368744177660 hW hs rfl h1 (by omega)) (fun W A1 c1 hW => rU64N_n A1 _ c1 W (val ys) 70368744177660 hW (by omega) (val_limbs _) h2 (by omega))
  · rcases Nat.lt_or_ge (val ys) (Ba * Ba) with h2 | h2
    · exact rDivMod_big A B xs ys c d w ha hb hs ht h0 0 (val ys : Nat) false true rfl (fun W hW => rU64N_n A xs c W (val xs) 70368744177660 hW hs rfl h1 (by omega)) (fun W A1 c1 hW => rU64Y_n A1 _ c1 W (val ys) 70368744177660 hW (by omega) (val_limbs _) h2 (by omega))
    · exact rDivMod_big A B xs ys c d w ha hb hs ht h0 0 0 false false rfl (fun W hW => rU64N_n A xs c W (val xs) 70368744177660 hW hs rfl h1 (by omega)) (fun W A1 c1 hW => rU64N_n A1 _ c1 W (val ys) 70368744177660 hW (by omega) (val_limbs _) h2 (by omega))
section
variable (A B : Option Addr) (xs ys : List Nat) (c d : Nat) (w : World) (m n s t : Nat) (K L : Nat)
theorem rDivMod_n (ha : Lim w A c xs) (hb : Lim w B d ys) (hs : xs.length ≤ K) (ht : ys.length ≤ L) (hm : val xs = m) (hn : val ys = n) (h0 : n ≠ 0) (hq : m / n = s) (hr : m % n = t) (hK : K ≤ 70368744177660) (hL : L ≤ 70368744177660) :
    Calls Try.prog 101 #[.slice A xs.length c, .slice B ys.length d] w (RetDiv w s t) := by
  subst hm hn hq hr; exact rDivMod_c A B xs ys c d w ha hb (by omega) (by omega) h0
theorem rDivModN_n (hb : Lim w B d ys) (ht : ys.length ≤ L) (hn : val ys = n) (h0 : n = 0) (hL : L ≤ 70368744177664) :
    Calls Try.prog 101 #[.slice A xs.length c, .slice B ys.length d] w (RetDivNoB w) := by
  subst hn; exact rDivMod_zero A B xs ys c d w hb (by omega) h0
end
end Go.Proofs.Ytaeidephegnkdaa
