/- NatN NatO in one text. -/
import Derived.Test.YtaeidephegnkdaaMD1
import Derived.Test.YtaeidephegnkdaaMB
import Derived.Test.YtaeidephegnkdaaMC2
namespace Go.Proofs.Ytaeidephegnkdaa
open Go.RowKit Gm
/- Contracts with named results, for the walks of the statements: natural numbers. Literal lists of limbs. -/

theorem limbs_lit (zs : List Nat) (h : (zs.all (fun x => decide (x < 4294967296)) && (zs.getLast?.getD 1 != 0)) = true) : limbs (val zs) = zs := by
  rw [Bool.and_eq_true] at h
  obtain ⟨h1, h2⟩ := h
  have hb : Lb zs := fun x hx => of_decide_eq_true (List.all_eq_true.1 h1 x hx)
  rcases List.eq_nil_or_concat zs with rfl | ⟨l, x, rfl⟩
  · exact limbs_zero
  · have hx : x ≠ 0 := by simpa using h2
    rw [List.concat_eq_append] at *
    have hl : Lb l := fun y hy => hb y (List.mem_append_left _ hy)
    exact limbs_val_snoc hl (hb x (by simp)) hx
theorem limbs_lit' {n : Nat} (zs : List Nat) (h : (zs.all (fun x => decide (x < 4294967296)) && (zs.getLast?.getD 1 != 0)) = true) (hn : val zs = n) : limbs n = zs := by
  rw [← hn]; exact limbs_lit zs h
theorem Lb_lit (zs : List Nat) (h : zs.all (fun x => decide (x < 4294967296)) = true) : Lb zs := fun x hx => of_decide_eq_true (List.all_eq_true.1 h x hx)

/-- literal lists in new memory -/
theorem lit1 (w : World) (zs : List Nat) (hz : Lb zs) (hl : zs.length ≤ 9223372036854775807) : Lim (w.alloc (.cells (cellsOf zs) 40)) (some ⟨w.heap.size, 0, none⟩) zs.length zs :=
  ((Row.new w zs).own hz (Nat.zero_le _) hl).lim
theorem bel1 (w : World) (o : Obj) : Below w.heap.size w (w.alloc o) := (Below.refl _ _).alloc (Nat.le_refl _) _
theorem lit2 (w : World) (o : Obj) (zs : List Nat) (hz : Lb zs) (hl : zs.length ≤ 9223372036854775807) : Lim ((w.alloc o).alloc (.cells (cellsOf zs) 40)) (some ⟨w.heap.size + 1, 0, none⟩) zs.length zs := by
  have h := lit1 (w.alloc o) zs hz hl
  have e : (w.alloc o).heap.size = w.heap.size + 1 := by simp
  rw [e] at h
  exact h
theorem bel2 (w : World) (o q : Obj) : Below w.heap.size w ((w.alloc o).alloc q) := (bel1 w o).alloc (by simp) _

section
variable (A B : Option Addr) (xs ys : List Nat) (c d : Nat) (w : World) (m n s t : Nat) (K L : Nat)
theorem Add_n (ha : Lim w A c xs) (hb : Lim w B d ys) (hs : xs.length ≤ K) (ht : ys.length ≤ L) (hm : val xs = m) (hn : val ys = n) (h : m + n = s) (hK : K < 70368744177664) (hL : L < 70368744177664) :
    Calls Try.prog 98 #[.slice A xs.length c, .slice B ys.length d] w (RetNat w s) := by
  subst hm hn h; exact Add_c A B xs ys c d w ha hb (by omega) (by omega)
theorem Mul_n (ha : Lim w A c xs) (hb : Lim w B d ys) (hs : xs.length ≤ K) (ht : ys.length ≤ L) (hm : val xs = m) (hn : val ys = n) (h : m * n = s) (hK : K + L ≤ 70368744177664) :
    Calls Try.prog 64 #[.slice A xs.length c, .slice B ys.length d] w (RetNat w s) := by
  subst hm hn h; exact Mul_c A B xs ys c d w ha hb (by omega)
theorem SubY_n (ha : Lim w A c xs) (hb : Lim w B d ys) (hs : xs.length ≤ K) (hm : val xs = m) (hn : val ys = n) (h : n ≤ m) (hr : m - n = s) (hK : K ≤ 70368744177664) :
    Calls Try.prog 99 #[.slice A xs.length c, .slice B ys.length d] w (RetNatOk w s) := by
  subst hm hn hr; exact Sub_ok A B xs ys c d w ha hb (by omega) h
/-- nothing but a pair of an empty list and false -/
def RetNoB (w : World) (e : Ending) (w' : World) : Prop := e = .returned (.tuple #[.slice none 0 0, .bool false]) ∧ Below w.heap.size w w'
theorem SubN_n (ha : Lim w A c xs) (hb : Lim w B d ys) (hm : val xs = m) (hn : val ys = n) (h : m < n) :
    Calls Try.prog 99 #[.slice A xs.length c, .slice B ys.length d] w (RetNoB w) := by
  subst hm hn
  refine (Sub_no A B xs ys c d w ha hb h).mono ?_
  rintro e w' ⟨rfl, k, rfl⟩
  exact ⟨rfl, below_drewN (Below.refl _ _) k⟩
theorem DivMod_n (ha : Lim w A c xs) (hb : Lim w B d ys) (hs : xs.length ≤ K) (hm : val xs = m) (hn : val ys = n) (h0 : n ≠ 0) (hq : m / n = s) (hr : m % n = t) (hK : K < 70368744177664) :
    Calls Try.prog 95 #[.slice A xs.length c, .slice B ys.length d] w (RetDiv w s t) := by
  subst hm hn hq hr; exact DivMod_c A B xs ys c d w ha hb (by omega) h0
def RetDivNoB (w : World) (e : Ending) (w' : World) : Prop := e = .returned (.tuple #[.slice none 0 0, .slice none 0 0, .bool false]) ∧ Below w.heap.size w w'
theorem DivModN_n (ha : Lim w A c xs) (hb : Lim w B d ys) (hn : val ys = n) (h0 : n = 0) :
    Calls Try.prog 95 #[.slice A xs.length c, .slice B ys.length d] w (RetDivNoB w) := by
  subst hn
  refine (DivMod_zero A B xs ys c d w ha hb h0).mono ?_
  rintro e w' ⟨rfl, rfl⟩
  exact ⟨rfl, Below.refl _ _⟩
theorem Trim_n (ha : Lim w A c xs) (hs : xs.length ≤ K) (hm : val xs = s) (hK : K ≤ 70368744177664) :
    Calls Try.prog 93 #[.slice A xs.length c] w (RetNat w s) := by
  subst hm; exact Trim_c A xs c w ha (by omega)
theorem Compare_n (x : Int) (ha : Lim w A c xs) (hb : Lim w B d ys) (hm : val xs = m) (hn : val ys = n) (h : cmpN m n = x) :
    Calls Try.prog 61 #[.slice A xs.length c, .slice B ys.length d] w (RetI w x) := by
  subst hm hn h
  refine (Compare_c A B xs ys c d w ha hb).mono ?_
  rintro e w' ⟨rfl, k, rfl⟩
  exact ⟨rfl, below_drewN (Below.refl _ _) k⟩
theorem rAdd_n (ha : Lim w A c xs) (hb : Lim w B d ys) (hs : xs.length ≤ K) (ht : ys.length ≤ L) (hm : val xs = m) (hn : val ys = n) (h : m + n = s) (hK : K < 70368744177664) (hL : L < 70368744177664) :
    Calls Try.prog 103 #[.slice A xs.length c, .slice B ys.length d] w (RetNat w s) := by
  subst hm hn h; exact rAdd_c A B xs ys c d w ha hb (by omega) (by omega)
theorem rMul_n (ha : Lim w A c xs) (hb : Lim w B d ys) (hs : xs.length ≤ K) (ht : ys.length ≤ L) (hm : val xs = m) (hn : val ys = n) (h : m * n = s) (hK : K + L ≤ 70368744177664) :
    Calls Try.prog 118 #[.slice A xs.length c, .slice B ys.length d] w (RetNat w s) := by
  subst hm hn h; exact rMul_c A B xs ys c d w ha hb (by omega)
theorem rTrim_n (ha : Lim w A c xs) (hs : xs.length ≤ K) (hm : val xs = s) (hK : K ≤ 70368744177664) :
    Calls Try.prog 86 #[.slice A xs.length c] w (RetNat w s) := by
  subst hm; exact rTrim_c A xs c w ha (by omega)
/-- equal lists -/
theorem rEq_n (ha : Lim w A c xs) (hb : Lim w B d ys) (hs : xs.length ≤ K) (ht : ys.length ≤ L) (h : xs = ys) (hK : K ≤ 70368744177664) (hL : L ≤ 70368744177664) :
    Calls Try.prog 49 #[.slice A xs.length c, .slice B ys.length d] w (RetB w true) := by
  refine (rEqual_c A B xs ys c d w ha hb (by omega) (by omega)).mono ?_
  rintro e w' ⟨rfl, k, rfl⟩
  exact ⟨by rw [decide_eq_true h], below_drewN (Below.refl _ _) k⟩
end
theorem limbs_len2 {n : Nat} (h : n < Ba * Ba) : (limbs n).length ≤ 2 := limbs_two.2 h


/- Contracts with named results: the references' differences and comparison; sizes. -/

theorem cmpN_nonneg {m n : Nat} (h : n ≤ m) : 0 ≤ cmpN m n := by
  rcases Nat.lt_or_eq_of_le h with h | h
  · rw [cmpN_gt h]; omega
  · rw [cmpN_eq h.symm]; omega
theorem nmul_sz {m n s k l j : Nat} (hm : (limbs m).length ≤ k) (hn : (limbs n).length ≤ l) (h : m * n = s) (hk : k + l ≤ j) : (limbs s).length ≤ j := by
  subst h
  have := limbs_mul_le m n
  omega
section
variable (A B : Option Addr) (xs ys : List Nat) (c d : Nat) (w : World) (m n s t : Nat) (K L : Nat)
theorem rSubY_n (ha : Lim w A c xs) (hb : Lim w B d ys) (hs : xs.length ≤ K) (ht : ys.length ≤ L) (hm : val xs = m) (hn : val ys = n) (h : n ≤ m) (hr : m - n = s) (hK : K ≤ 70368744177664) (hL : L ≤ 70368744177664) :
    Calls Try.prog 104 #[.slice A xs.length c, .slice B ys.length d] w (RetNatOk w s) := by
  subst hm hn hr; exact rSub_ok A B xs ys c d w ha hb (by omega) (by omega) h
theorem rSubN_n (ha : Lim w A c xs) (hb : Lim w B d ys) (hs : xs.length ≤ K) (ht : ys.length ≤ L) (hm : val xs = m) (hn : val ys = n) (h : m < n) (hK : K ≤ 70368744177664) (hL : L ≤ 70368744177664) :
    Calls Try.prog 104 #[.slice A xs.length c, .slice B ys.length d] w (RetNoB w) := by
  subst hm hn; exact rSub_no A B xs ys c d w ha hb (by omega) (by omega) h
theorem rCompare_n (x : Int) (ha : Lim w A c xs) (hb : Lim w B d ys) (hs : xs.length ≤ K) (ht : ys.length ≤ L) (hm : val xs = m) (hn : val ys = n) (h : cmpN m n = x) (hK : K ≤ 70368744177664) (hL : L ≤ 70368744177664) :
    Calls Try.prog 119 #[.slice A xs.length c, .slice B ys.length d] w (RetI w x) := by
  subst hm hn h; exact rCompare_c A B xs ys c d w ha hb (by omega) (by omega)
end

end Go.Proofs.Ytaeidephegnkdaa
