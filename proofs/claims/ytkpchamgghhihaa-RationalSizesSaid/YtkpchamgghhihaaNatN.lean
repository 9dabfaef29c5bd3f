/- Contracts with named results, for the walks of the statements: natural numbers. Literal lists of limbs. -/
import Derived.Test.YtkpchamgghhihaaNatK
import Derived.Test.YtkpchamgghhihaaNatH
import Derived.Test.YtkpchamgghhihaaRefG
namespace Go.Proofs.Ytkpchamgghhihaa
open Go.RowKit Gm

theorem limbs_lit (zs : List Nat) (h : (zs.all (fun x => decide (x < 4294967296)) && (zs.getLast?.getD 1 != 0)) = true) : limbs (val zs) = zs := by
  rw [Bool.and_eq_true] at h
  obtain ⟨h1, h2⟩ := h
  have hb : Lb zs := fun x hx => of_decide_eq_true (List.all_eq_true.1 h1 x hx)
  rcases List.eq_nil_or_concat zs with rfl | ⟨l, x, rfl⟩
  · exact limbs_zero
  · have hx : x ≠ 0 := by simpa using h2
    rw [List.concat_eq_append] at *
    have hl : Lb l := fun y hy => hb y (List.mem_append_left _ hy)
    exact limbs_val_snoc hl (hb x (by simp)) hx
theorem limbs_lit' {n : Nat} (zs : List Nat) (h : (zs.all (fun x => decide (x < 4294967296)) && (zs.getLast?.getD 1 != 0)) = true) (hn : val zs = n) : limbs n = zs := by
  rw [← hn]; exact limbs_lit zs h
theorem Lb_lit (zs : List Nat) (h : zs.all (fun x => decide (x < 4294967296)) = true) : Lb zs := fun x hx => of_decide_eq_true (List.all_eq_true.1 h x hx)

/-- literal lists in new memory -/
theorem lit1 (w : World) (zs : List Nat) (hz : Lb zs) (hl : zs.length ≤ 9223372036854775807) : Lim (w.alloc (.cells (cellsOf zs) 24)) (some ⟨w.heap.size, 0, none⟩) zs.length zs :=
  ((Row.new w zs).own hz (Nat.zero_le _) hl).lim
theorem bel1 (w : World) (o : Obj) : Below w.heap.size w (w.alloc o) := (Below.refl _ _).alloc (Nat.le_refl _) _
theorem lit2 (w : World) (o : Obj) (zs : List Nat) (hz : Lb zs) (hl : zs.length ≤ 9223372036854775807) : Lim ((w.alloc o).alloc (.cells (cellsOf zs) 24)) (some ⟨w.heap.size + 1, 0, none⟩) zs.length zs := by
  have h := lit1 (w.alloc o) zs hz hl
  have e : (w.alloc o).heap.size = w.heap.size + 1 := by simp
  rw [e] at h
  exact h
theorem bel2 (w : World) (o q : Obj) : Below w.heap.size w ((w.alloc o).alloc q) := (bel1 w o).alloc (by simp) _

section
variable (A B : Option Addr) (xs ys : List Nat) (c d : Nat) (w : World) (m n s t : Nat) (K L : Nat)
theorem Add_n (ha : Lim w A c xs) (hb : Lim w B d ys) (hs : xs.length ≤ K) (ht : ys.length ≤ L) (hm : val xs = m) (hn : val ys = n) (h : m + n = s) (hK : K < 70368744177664) (hL : L < 70368744177664) :
    Calls Try.prog 19 #[.slice A xs.length c, .slice B ys.length d] w (RetNat w s) := by
  subst hm hn h; exact Add_c A B xs ys c d w ha hb (by omega) (by omega)
theorem Mul_n (ha : Lim w A c xs) (hb : Lim w B d ys) (hs : xs.length ≤ K) (ht : ys.length ≤ L) (hm : val xs = m) (hn : val ys = n) (h : m * n = s) (hK : K + L ≤ 70368744177664) :
    Calls Try.prog 20 #[.slice A xs.length c, .slice B ys.length d] w (RetNat w s) := by
  subst hm hn h; exact Mul_c A B xs ys c d w ha hb (by omega)
theorem SubY_n (ha : Lim w A c xs) (hb : Lim w B d ys) (hs : xs.length ≤ K) (hm : val xs = m) (hn : val ys = n) (h : n ≤ m) (hr : m - n = s) (hK : K ≤ 70368744177664) :
    Calls Try.prog 15 #[.slice A xs.length c, .slice B ys.length d] w (RetNatOk w s) := by
  subst hm hn hr; exact Sub_ok A B xs ys c d w ha hb (by omega) h
/-- nothing but a pair of an empty list and false -/
def RetNoB (w : World) (e : Ending) (w' : World) : Prop := e = .returned (.tuple #[.slice none 0 0, .bool false]) ∧ Below w.heap.size w w'
theorem SubN_n (ha : Lim w A c xs) (hb : Lim w B d ys) (hm : val xs = m) (hn : val ys = n) (h : m < n) :
    Calls Try.prog 15 #[.slice A xs.length c, .slice B ys.length d] w (RetNoB w) := by
  subst hm hn
  refine (Sub_no A B xs ys c d w ha hb h).mono ?_
  rintro e w' ⟨rfl, k, rfl⟩
  exact ⟨rfl, below_drewN (Below.refl _ _) k⟩
theorem DivMod_n (ha : Lim w A c xs) (hb : Lim w B d ys) (hs : xs.length ≤ K) (hm : val xs = m) (hn : val ys = n) (h0 : n ≠ 0) (hq : m / n = s) (hr : m % n = t) (hK : K < 70368744177664) :
    Calls Try.prog 14 #[.slice A xs.length c, .slice B ys.length d] w (RetDiv w s t) := by
  subst hm hn hq hr; exact DivMod_c A B xs ys c d w ha hb (by omega) h0
def RetDivNoB (w : World) (e : Ending) (w' : World) : Prop := e = .returned (.tuple #[.slice none 0 0, .slice none 0 0, .bool false]) ∧ Below w.heap.size w w'
theorem DivModN_n (ha : Lim w A c xs) (hb : Lim w B d ys) (hn : val ys = n) (h0 : n = 0) :
    Calls Try.prog 14 #[.slice A xs.length c, .slice B ys.length d] w (RetDivNoB w) := by
  subst hn
  refine (DivMod_zero A B xs ys c d w ha hb h0).mono ?_
  rintro e w' ⟨rfl, rfl⟩
  exact ⟨rfl, Below.refl _ _⟩
theorem Trim_n (ha : Lim w A c xs) (hs : xs.length ≤ K) (hm : val xs = s) (hK : K ≤ 70368744177664) :
    Calls Try.prog 18 #[.slice A xs.length c] w (RetNat w s) := by
  subst hm; exact Trim_c A xs c w ha (by omega)
theorem Compare_n (x : Int) (ha : Lim w A c xs) (hb : Lim w B d ys) (hm : val xs = m) (hn : val ys = n) (h : cmpN m n = x) :
    Calls Try.prog 66 #[.slice A xs.length c, .slice B ys.length d] w (RetI w x) := by
  subst hm hn h
  refine (Compare_c A B xs ys c d w ha hb).mono ?_
  rintro e w' ⟨rfl, k, rfl⟩
  exact ⟨rfl, below_drewN (Below.refl _ _) k⟩
theorem rAdd_n (ha : Lim w A c xs) (hb : Lim w B d ys) (hs : xs.length ≤ K) (ht : ys.length ≤ L) (hm : val xs = m) (hn : val ys = n) (h : m + n = s) (hK : K < 70368744177664) (hL : L < 70368744177664) :
    Calls Try.prog 110 #[.slice A xs.length c, .slice B ys.length d] w (RetNat w s) := by
  subst hm hn h; exact rAdd_c A B xs ys c d w ha hb (by omega) (by omega)
theorem rMul_n (ha : Lim w A c xs) (hb : Lim w B d ys) (hs : xs.length ≤ K) (ht : ys.length ≤ L) (hm : val xs = m) (hn : val ys = n) (h : m * n = s) (hK : K + L ≤ 70368744177664) :
    Calls Try.prog 96 #[.slice A xs.length c, .slice B ys.length d] w (RetNat w s) := by
  subst hm hn h; exact rMul_c A B xs ys c d w ha hb (by omega)
theorem rTrim_n (ha : Lim w A c xs) (hs : xs.length ≤ K) (hm : val xs = s) (hK : K ≤ 70368744177664) :
    Calls Try.prog 106 #[.slice A xs.length c] w (RetNat w s) := by
  subst hm; exact rTrim_c A xs c w ha (by omega)
/-- equal lists -/
theorem rEq_n (ha : Lim w A c xs) (hb : Lim w B d ys) (hs : xs.length ≤ K) (ht : ys.length ≤ L) (h : xs = ys) (hK : K ≤ 70368744177664) (hL : L ≤ 70368744177664) :
    Calls Try.prog 74 #[.slice A xs.length c, .slice B ys.length d] w (RetB w true) := by
  refine (rEqual_c A B xs ys c d w ha hb (by omega) (by omega)).mono ?_
  rintro e w' ⟨rfl, k, rfl⟩
  exact ⟨by rw [decide_eq_true h], below_drewN (Below.refl _ _) k⟩
end
theorem limbs_len2 {n : Nat} (h : n < Ba * Ba) : (limbs n).length ≤ 2 := limbs_two.2 h

set_option maxHeartbeats 2000000 in
set_option maxRecDepth 100000 in
theorem awake1_c (w : World) : Calls Try.prog 23 #[] w (RetB w true) := by
  have e1 : limbs 4294967295 = [4294967295] := limbs_lit' [4294967295] (by decide) (by decide)
  have e2 : limbs 6148914691236517205 = [1431655765, 1431655765] := limbs_lit' [1431655765, 1431655765] (by decide) (by decide)
  have e3 : limbs 1 = [1] := limbs_lit' [1] (by decide) (by decide)
  have e4 : limbs 4294967296 = [0, 1] := limbs_lit' [0, 1] (by decide) (by decide)
  have e5 : limbs 6 = [6] := limbs_lit' [6] (by decide) (by decide)
  have E1 := Lib.hid e1
  have E2 := Lib.hid e2
  have E3 := Lib.hid e3
  have E4 := Lib.hid e4
  have E5 := Lib.hid e5
  clear e1 e2 e3 e4 e5
  go_enter Try.func23, Try.ntmps23
  go_wp2_with fail
  have b0 := bel2 w (.cells (cellsOf [0, 1]) 24) (.cells (cellsOf [1, 0, 0]) 24)
  refine (SubY_n _ _ [0, 1] [1, 0, 0] 2 3 _ 4294967296 1 4294967295 2 ((lit1 w [0, 1] (Lb_lit _ (by decide)) (by decide)).below (bel1 _ _)) (lit2 w _ [1, 0, 0] (Lb_lit _ (by decide)) (by decide)) (by decide) (by decide) (by decide) (by decide) (by decide) (by decide)).mono ?_
  rintro e w1 ⟨A1, c1, rfl, r1, b1⟩
  have hBel : Below w.heap.size w w1 := b0.trans (b1.mono b0.size)
  have h1 := r1.lim
  clear r1 b0 b1
  go_wp2_with fail
  have b0 := bel2 w1 (.cells (cellsOf [0, 0, 1]) 24) (.cells (cellsOf [3]) 24)
  refine (DivMod_n _ _ [0, 0, 1] [3] _ _ _ 18446744073709551616 3 6148914691236517205 1 3 ((lit1 w1 [0, 0, 1] (Lb_lit _ (by decide)) (by decide)).below (bel1 _ _)) (lit2 w1 _ [3] (Lb_lit _ (by decide)) (by decide)) (by decide) (by decide) (by decide) (by decide) (by decide) (by decide) (by decide)).mono ?_
  rintro e w2 ⟨A2, c2, A3, c3, rfl, r2, r3, b1⟩
  have b2 : Below w1.heap.size w1 w2 := b0.trans (b1.mono b0.size)
  replace hBel := hBel.trans (b2.mono hBel.size)
  replace h1 := h1.below b2
  have h2 := r2.lim
  have h3 := r3.lim
  clear b0 b1 b2 r2 r3
  go_wp2_with fail
  have b0 := bel2 w2 (.cells (cellsOf [4294967295]) 24) (.cells (cellsOf [1]) 24)
  refine (Add_n _ _ [4294967295] [1] _ _ _ 4294967295 1 4294967296 1 1 ((lit1 w2 [4294967295] (Lb_lit _ (by decide)) (by decide)).below (bel1 _ _)) (lit2 w2 _ [1] (Lb_lit _ (by decide)) (by decide)) (by decide) (by decide) (by decide) (by decide) (by decide) (by decide) (by decide)).mono ?_
  rintro e w3 ⟨A4, c4, rfl, r4, b1⟩
  have b2 : Below w2.heap.size w2 w3 := b0.trans (b1.mono b0.size)
  replace hBel := hBel.trans (b2.mono hBel.size)
  replace h1 := h1.below b2
  replace h2 := h2.below b2
  replace h3 := h3.below b2
  have h4 := r4.lim
  clear b0 b1 b2 r4
  go_wp2_with fail
  have b0 := bel1 w3 (.cells (cellsOf [0, 1]) 24)
  refine (rEq_n _ _ _ [0, 1] _ _ _ 2 2 (h4.below b0) (lit1 w3 [0, 1] (Lb_lit _ (by decide)) (by decide)) (by rw [E4.out]; decide) (by decide) E4.out (by decide) (by decide)).mono ?_
  rintro e w4 ⟨rfl, b1⟩
  have b2 : Below w3.heap.size w3 w4 := b0.trans (b1.mono b0.size)
  replace hBel := hBel.trans (b2.mono hBel.size)
  replace h1 := h1.below b2
  replace h2 := h2.below b2
  replace h3 := h3.below b2
  clear b0 b1 b2 h4
  go_wp2_with fail
  have b0 := bel1 w4 (.cells (cellsOf [4294967295]) 24)
  refine (rEq_n _ _ _ [4294967295] _ _ _ 2 2 (h1.below b0) (lit1 w4 [4294967295] (Lb_lit _ (by decide)) (by decide)) (by rw [E1.out]; decide) (by decide) E1.out (by decide) (by decide)).mono ?_
  rintro e w5 ⟨rfl, b1⟩
  have b2 : Below w4.heap.size w4 w5 := b0.trans (b1.mono b0.size)
  replace hBel := hBel.trans (b2.mono hBel.size)
  replace h2 := h2.below b2
  replace h3 := h3.below b2
  clear b0 b1 b2 h1
  go_wp2_with fail
  have b0 := bel1 w5 (.cells (cellsOf [1431655765, 1431655765]) 24)
  refine (rEq_n _ _ _ [1431655765, 1431655765] _ _ _ 2 2 (h2.below b0) (lit1 w5 [1431655765, 1431655765] (Lb_lit _ (by decide)) (by decide)) (by rw [E2.out]; decide) (by decide) E2.out (by decide) (by decide)).mono ?_
  rintro e w6 ⟨rfl, b1⟩
  have b2 : Below w5.heap.size w5 w6 := b0.trans (b1.mono b0.size)
  replace hBel := hBel.trans (b2.mono hBel.size)
  replace h3 := h3.below b2
  clear b0 b1 b2 h2
  go_wp2_with fail
  have b0 := bel1 w6 (.cells (cellsOf [1]) 24)
  refine (rEq_n _ _ _ [1] _ _ _ 2 2 (h3.below b0) (lit1 w6 [1] (Lb_lit _ (by decide)) (by decide)) (by rw [E3.out]; decide) (by decide) E3.out (by decide) (by decide)).mono ?_
  rintro e w7 ⟨rfl, b1⟩
  have b2 : Below w6.heap.size w6 w7 := b0.trans (b1.mono b0.size)
  replace hBel := hBel.trans (b2.mono hBel.size)
  clear b0 b1 b2 h3
  go_wp2_with fail
  have b0 := bel2 w7 (.cells (cellsOf [12]) 24) (.cells (cellsOf [18, 0]) 24)
  refine (GCD_small_lt _ _ [12] [18, 0] _ _ _  ((lit1 w7 [12] (Lb_lit _ (by decide)) (by decide)).below (bel1 _ _)) (lit2 w7 _ [18, 0] (Lb_lit _ (by decide)) (by decide)) (by decide) (by decide) (by decide)).mono ?_
  rintro e w8 ⟨A5, c5, rfl, r5, b1⟩
  have b2 : Below w7.heap.size w7 w8 := b0.trans (b1.mono b0.size)
  replace hBel := hBel.trans (b2.mono hBel.size)
  have h5 := r5.lim
  rw [show Nat.gcd (val [12]) (val [18, 0]) = 6 by decide] at h5 ⊢
  clear b0 b1 b2 r5
  go_wp2_with fail
  have b0 := bel1 w8 (.cells (cellsOf [6]) 24)
  refine (rEq_n _ _ _ [6] _ _ _ 2 2 (h5.below b0) (lit1 w8 [6] (Lb_lit _ (by decide)) (by decide)) (by rw [E5.out]; decide) (by decide) E5.out (by decide) (by decide)).mono ?_
  rintro e w9 ⟨rfl, b1⟩
  have b2 : Below w8.heap.size w8 w9 := b0.trans (b1.mono b0.size)
  replace hBel := hBel.trans (b2.mono hBel.size)
  clear b0 b1 b2 h5
  go_wp2_with fail
  go_ret
  exact ⟨rfl, hBel⟩
end Go.Proofs.Ytkpchamgghhihaa
