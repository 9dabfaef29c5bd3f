/- Num Arith ArithB Ext in one text. -/
namespace Go.Proofs.Ytdcofnjekdkifaa
open Go.RowKit Gm
/- Plain arithmetic of lists of limbs in base 2^32: value, canonical list, cutting of zero limbs. No program in sight. -/
namespace Gm

def Ba : Nat := 4294967296

theorem Ba_eq : Ba = 4294967296 := rfl
theorem Ba_pos : 0 < Ba := by decide

/-- the value of a list of limbs, least limb first -/
def val : List Nat → Nat
  | [] => 0
  | x :: xs => x + Ba * val xs

/-- every limb is below 2^32 -/
def Lb (xs : List Nat) : Prop := ∀ x ∈ xs, x < Ba

/-- the canonical list of a number -/
def limbs (n : Nat) : List Nat := if n = 0 then [] else (n % Ba) :: limbs (n / Ba)
termination_by n
decreasing_by exact Nat.div_lt_self (by omega) (by decide)

theorem limbs_zero : limbs 0 = [] := by rw [limbs]; simp
theorem limbs_pos {n : Nat} (h : n ≠ 0) : limbs n = (n % Ba) :: limbs (n / Ba) := by rw [limbs]; simp [h]

theorem Lb_nil : Lb [] := by intro x hx; cases hx
theorem Lb_cons {x : Nat} {xs : List Nat} (h : x < Ba) (hs : Lb xs) : Lb (x :: xs) := by
  intro y hy
  rcases List.mem_cons.1 hy with rfl | hy
  · exact h
  · exact hs y hy
theorem Lb.head {x : Nat} {xs : List Nat} (h : Lb (x :: xs)) : x < Ba := h x (by simp)
theorem Lb.tail {x : Nat} {xs : List Nat} (h : Lb (x :: xs)) : Lb xs := fun y hy => h y (by simp [hy])
theorem Lb.append {xs ys : List Nat} (h : Lb xs) (k : Lb ys) : Lb (xs ++ ys) := by
  intro y hy
  rcases List.mem_append.1 hy with hy | hy
  · exact h y hy
  · exact k y hy
theorem Lb.take {xs : List Nat} (h : Lb xs) (n : Nat) : Lb (xs.take n) := fun y hy => h y (List.mem_of_mem_take hy)
theorem Lb.drop {xs : List Nat} (h : Lb xs) (n : Nat) : Lb (xs.drop n) := fun y hy => h y (List.mem_of_mem_drop hy)
theorem Lb.get {xs : List Nat} (h : Lb xs) (k : Nat) : xs[k]?.getD 0 < Ba := by
  rcases Nat.lt_or_ge k xs.length with hk | hk
  · rw [List.getElem?_eq_getElem hk]; exact h _ (List.getElem_mem hk)
  · rw [List.getElem?_eq_none hk]; exact Ba_pos
theorem Lb.set {xs : List Nat} (h : Lb xs) (k v : Nat) (hv : v < Ba) : Lb (xs.set k v) := by
  intro y hy
  rcases List.mem_or_eq_of_mem_set hy with hy | rfl
  · exact h y hy
  · exact hv
theorem Lb_replicate (n : Nat) : Lb (List.replicate n 0) := by
  intro y hy
  rw [(List.mem_replicate.1 hy).2]; exact Ba_pos

theorem val_nil : val [] = 0 := rfl
theorem val_cons (x : Nat) (xs : List Nat) : val (x :: xs) = x + Ba * val xs := rfl
theorem val_append (xs ys : List Nat) : val (xs ++ ys) = val xs + Ba ^ xs.length * val ys := by
  induction xs with
  | nil => simp [val]
  | cons x xs ih =>
    simp only [List.cons_append, val, ih, List.length_cons, Nat.pow_succ]
    rw [Nat.mul_add, Nat.add_assoc]
    congr 2
    rw [← Nat.mul_assoc, Nat.mul_comm Ba]
theorem val_snoc (xs : List Nat) (x : Nat) : val (xs ++ [x]) = val xs + Ba ^ xs.length * x := by
  rw [val_append]; simp [val]
theorem val_replicate (n : Nat) : val (List.replicate n 0) = 0 := by
  induction n with
  | zero => rfl
  | succ n ih => simp [List.replicate_succ, val, ih]
theorem val_append_zeros (xs : List Nat) (n : Nat) : val (xs ++ List.replicate n 0) = val xs := by
  rw [val_append, val_replicate]; simp
theorem val_lt {xs : List Nat} (h : Lb xs) : val xs < Ba ^ xs.length := by
  induction xs with
  | nil => simp [val]
  | cons x xs ih =>
    have h1 := ih h.tail
    have h2 := h.head
    simp only [val, List.length_cons, Nat.pow_succ]
    have h3 : val xs + 1 ≤ Ba ^ xs.length := h1
    have h4 : (val xs + 1) * Ba ≤ Ba ^ xs.length * Ba := Nat.mul_le_mul_right _ h3
    rw [Nat.add_mul, Nat.mul_comm (val xs) Ba] at h4
    omega

theorem Lb_limbs (n : Nat) : Lb (limbs n) := by
  induction n using Nat.strongRecOn with
  | ind n ih =>
    by_cases h : n = 0
    · subst h; rw [limbs_zero]; exact Lb_nil
    · rw [limbs_pos h]
      exact Lb_cons (Nat.mod_lt _ Ba_pos) (ih _ (Nat.div_lt_self (by omega) (by decide)))

theorem val_limbs (n : Nat) : val (limbs n) = n := by
  induction n using Nat.strongRecOn with
  | ind n ih =>
    by_cases h : n = 0
    · subst h; rw [limbs_zero]; rfl
    · rw [limbs_pos h, val, ih _ (Nat.div_lt_self (by omega) (by decide))]
      exact Nat.mod_add_div n Ba

theorem limbs_inj {m n : Nat} (h : limbs m = limbs n) : m = n := by
  rw [← val_limbs m, ← val_limbs n, h]

theorem limbs_eq_nil {n : Nat} : limbs n = [] ↔ n = 0 := by
  constructor
  · intro h; have := val_limbs n; rw [h] at this; exact this.symm
  · rintro rfl; exact limbs_zero

theorem limbs_val_cons {x : Nat} {xs : List Nat} (h : x < Ba) (hn : val (x :: xs) ≠ 0) : limbs (val (x :: xs)) = x :: limbs (val xs) := by
  rw [limbs_pos hn, val]
  congr 1
  · rw [Nat.add_mul_mod_self_left]; exact Nat.mod_eq_of_lt h
  · rw [Nat.add_mul_div_left _ _ Ba_pos, Nat.div_eq_of_lt h, Nat.zero_add]

/-- a list whose last limb is not 0 is canonical -/
theorem limbs_val_snoc {xs : List Nat} {x : Nat} (h : Lb xs) (hx : x < Ba) (h0 : x ≠ 0) : limbs (val (xs ++ [x])) = xs ++ [x] := by
  induction xs with
  | nil =>
    show limbs (val [x]) = [x]
    have hv : val [x] ≠ 0 := by simp only [val]; omega
    rw [limbs_val_cons hx hv]
    simp [val, limbs_zero]
  | cons y ys ih =>
    have hne : val (ys ++ [x]) ≠ 0 := by
      rw [val_snoc]
      have : 0 < Ba ^ ys.length * x := Nat.mul_pos (Nat.pow_pos Ba_pos) (by omega)
      omega
    have hv : val (y :: (ys ++ [x])) ≠ 0 := by
      simp only [val]
      have : 0 < Ba * val (ys ++ [x]) := Nat.mul_pos Ba_pos (by omega)
      omega
    show limbs (val (y :: (ys ++ [x]))) = y :: (ys ++ [x])
    rw [limbs_val_cons h.head hv, ih h.tail]

/-- the last limb of a canonical list is not 0 -/
theorem limbs_last {n : Nat} (h : n ≠ 0) : (limbs n)[(limbs n).length - 1]?.getD 0 ≠ 0 := by
  induction n using Nat.strongRecOn with
  | ind n ih =>
    rw [limbs_pos h]
    by_cases hq : n / Ba = 0
    · rw [hq, limbs_zero]
      have : n < Ba := by
        rcases Nat.lt_or_ge n Ba with h1 | h1
        · exact h1
        · have := Nat.div_pos h1 Ba_pos; omega
      simp [Nat.mod_eq_of_lt this, h]
    · have h1 := ih _ (Nat.div_lt_self (by omega) (by decide)) hq
      have hl : 0 < (limbs (n / Ba)).length := by
        rcases Nat.eq_zero_or_pos (limbs (n / Ba)).length with h2 | h2
        · exact absurd (limbs_eq_nil.1 (List.eq_nil_of_length_eq_zero h2)) hq
        · exact h2
      have e : (n % Ba :: limbs (n / Ba)).length - 1 = ((limbs (n / Ba)).length - 1) + 1 := by simp; omega
      rw [e, List.getElem?_cons_succ]
      exact h1

/-- cutting zero limbs at the end gives the canonical list: if the rest is 0 and the part before does not end in 0 -/
theorem take_canon {xs : List Nat} {n : Nat} (h : Lb xs) (hn : n ≤ xs.length) (h0 : val (xs.drop n) = 0) (hl : n = 0 ∨ xs[n - 1]?.getD 0 ≠ 0) :
    xs.take n = limbs (val xs) := by
  have hv : val xs = val (xs.take n) := by
    have e := val_append (xs.take n) (xs.drop n)
    rw [List.take_append_drop, h0] at e
    simpa using e
  rcases hl with rfl | hl
  · rw [hv]; simp [val, limbs_zero]
  · rcases Nat.eq_zero_or_pos n with rfl | hp
    · rw [hv]; simp [val, limbs_zero]
    · obtain ⟨m, rfl⟩ : ∃ m, n = m + 1 := ⟨n - 1, by omega⟩
      have hlt : m < xs.length := by omega
      have et : xs.take (m + 1) = xs.take m ++ [xs[m]] := List.take_succ_eq_append_getElem hlt
      have hx : xs[m] ≠ 0 := by simpa [List.getElem?_eq_getElem hlt] using hl
      rw [hv, et, limbs_val_snoc (h.take m) (h _ (List.getElem_mem hlt)) hx]

theorem val_drop_step {xs : List Nat} {n : Nat} (hn : n < xs.length) (h0 : val (xs.drop (n + 1)) = 0) (hx : xs[n]?.getD 0 = 0) : val (xs.drop n) = 0 := by
  rw [List.drop_eq_getElem_cons hn, val, h0]
  rw [List.getElem?_eq_getElem hn] at hx
  simp at hx
  rw [hx]; rfl

theorem limbs_length_le {xs : List Nat} (h : Lb xs) : (limbs (val xs)).length ≤ xs.length := by
  induction xs with
  | nil => simp [val, limbs_zero]
  | cons x xs ih =>
    by_cases hn : val (x :: xs) = 0
    · rw [hn, limbs_zero]; simp
    · rw [limbs_val_cons h.head hn]
      simpa using ih h.tail

/-- xs cut at the canonical length is the canonical list, and what was cut is zero -/
theorem take_limbs {xs : List Nat} (h : Lb xs) : xs.take (limbs (val xs)).length = limbs (val xs) := by
  induction xs with
  | nil => simp [val, limbs_zero]
  | cons x xs ih =>
    by_cases hn : val (x :: xs) = 0
    · rw [hn, limbs_zero]; simp
    · rw [limbs_val_cons h.head hn]
      simp [ih h.tail]

theorem limbs_get {xs : List Nat} (h : Lb xs) (k : Nat) : (limbs (val xs))[k]?.getD 0 = xs[k]?.getD 0 := by
  induction xs generalizing k with
  | nil => simp [val, limbs_zero]
  | cons x xs ih =>
    by_cases hn : val (x :: xs) = 0
    · rw [hn, limbs_zero]
      have h1 : x = 0 := by simp only [val] at hn; omega
      have h2 : val xs = 0 := by
        simp only [val] at hn
        rcases Nat.eq_zero_or_pos (val xs) with h2 | h2
        · exact h2
        · have := Nat.mul_pos Ba_pos h2; omega
      cases k with
      | zero => simp [h1]
      | succ k =>
        have := ih h.tail k
        rw [h2, limbs_zero] at this
        simpa using this
    · rw [limbs_val_cons h.head hn]
      cases k with
      | zero => rfl
      | succ k => simpa using ih h.tail k

/-- two lists of limbs with equal value have equal canonical lists: same value iff same list -/
theorem limbs_length_lt {n k : Nat} (h : n < Ba ^ k) : (limbs n).length ≤ k := by
  induction k generalizing n with
  | zero =>
    have : n = 0 := by simp at h; omega
    subst this; simp [limbs_zero]
  | succ k ih =>
    by_cases hn : n = 0
    · subst hn; simp [limbs_zero]
    · rw [limbs_pos hn]
      have : n / Ba < Ba ^ k := by
        apply Nat.div_lt_of_lt_mul
        rw [Nat.mul_comm, ← Nat.pow_succ]; exact h
      simpa using ih this

theorem limbs_length_ge {n k : Nat} (h : Ba ^ k ≤ n) : k < (limbs n).length := by
  have h1 := val_lt (Lb_limbs n)
  rw [val_limbs] at h1
  have h2 : Ba ^ k < Ba ^ (limbs n).length := by omega
  exact (Nat.pow_lt_pow_iff_right (by decide)).1 h2

theorem limbs_mono {m n : Nat} (h : m ≤ n) : (limbs m).length ≤ (limbs n).length := by
  have h1 := val_lt (Lb_limbs n)
  rw [val_limbs] at h1
  exact limbs_length_lt (by omega)

theorem limbs_lt_length {m n : Nat} (h : (limbs m).length < (limbs n).length) : m < n := by
  rcases Nat.lt_or_ge m n with h1 | h1
  · exact h1
  · have := limbs_mono h1; omega

theorem val_take_succ {xs : List Nat} {k : Nat} (hk : k < xs.length) : val (xs.take (k + 1)) = val (xs.take k) + Ba ^ k * xs[k]?.getD 0 := by
  rw [List.take_succ_eq_append_getElem hk, val_snoc, List.length_take, Nat.min_eq_left (by omega), List.getElem?_eq_getElem hk]; rfl

theorem val_take_succ' (xs : List Nat) (k : Nat) : val (xs.take (k + 1)) = val (xs.take k) + Ba ^ k * xs[k]?.getD 0 := by
  rcases Nat.lt_or_ge k xs.length with hk | hk
  · exact val_take_succ hk
  · rw [List.take_of_length_le (by omega), List.take_of_length_le (by omega), List.getElem?_eq_none hk]; simp

theorem val_take_add_drop (xs : List Nat) (k : Nat) (hk : k ≤ xs.length) : val xs = val (xs.take k) + Ba ^ k * val (xs.drop k) := by
  have e := val_append (xs.take k) (xs.drop k)
  rw [List.take_append_drop, List.length_take, Nat.min_eq_left hk] at e
  exact e

theorem val_drop {xs : List Nat} {k : Nat} (hk : k < xs.length) : val (xs.drop k) = xs[k]?.getD 0 + Ba * val (xs.drop (k + 1)) := by
  rw [List.drop_eq_getElem_cons hk, val, List.getElem?_eq_getElem hk]; rfl

end Gm

/- Plain arithmetic of the loops over limbs: sums, differences, products, comparison, the digits of the long division, the steps of the greatest common divisor. No program in sight. -/
namespace Gm

theorem val_set {zs : List Nat} {k : Nat} (v : Nat) (hk : k < zs.length) : val (zs.set k v) + Ba ^ k * zs[k]?.getD 0 = val zs + Ba ^ k * v := by
  induction zs generalizing k with
  | nil => simp at hk
  | cons z zs ih =>
    cases k with
    | zero => simp [val]; omega
    | succ k =>
      have h := ih (k := k) (by simpa using hk)
      simp only [List.set_cons_succ, val, List.getElem?_cons_succ, Nat.pow_succ]
      grind

theorem get_set_ne {zs : List Nat} {k i : Nat} (v : Nat) (h : k ≠ i) : (zs.set k v)[i]?.getD 0 = zs[i]?.getD 0 := by
  rw [List.getElem?_set_ne h]
theorem get_set_eq {zs : List Nat} {k : Nat} (v : Nat) (h : k < zs.length) : (zs.set k v)[k]?.getD 0 = v := by
  rw [List.getElem?_set_self h]; rfl

/-- a round of the addition -/
theorem add_step {xs ys zs : List Nat} {i c : Nat} (hi : i < zs.length) (h0 : ∀ k, i ≤ k → zs[k]?.getD 0 = 0)
    (h : val zs + Ba ^ i * c = val (xs.take i) + val (ys.take i)) :
    val (zs.set i ((c + xs[i]?.getD 0 + ys[i]?.getD 0) % Ba)) + Ba ^ (i + 1) * ((c + xs[i]?.getD 0 + ys[i]?.getD 0) / Ba) = val (xs.take (i + 1)) + val (ys.take (i + 1)) := by
  have e := val_set ((c + xs[i]?.getD 0 + ys[i]?.getD 0) % Ba) hi
  rw [h0 i (Nat.le_refl _)] at e
  rw [val_take_succ', val_take_succ', Nat.pow_succ]
  have hm := Nat.mod_add_div (c + xs[i]?.getD 0 + ys[i]?.getD 0) Ba
  generalize (c + xs[i]?.getD 0 + ys[i]?.getD 0) % Ba = r at *
  generalize (c + xs[i]?.getD 0 + ys[i]?.getD 0) / Ba = q at *
  grind

theorem zeros_step {zs : List Nat} {i v : Nat} (h0 : ∀ k, i ≤ k → zs[k]?.getD 0 = 0) : ∀ k, i + 1 ≤ k → (zs.set i v)[k]?.getD 0 = 0 := by
  intro k hk
  rw [get_set_ne v (by omega)]
  exact h0 k (by omega)

/-- a round of the subtraction: no borrow, borrow -/
theorem sub_step_no {xs ys zs : List Nat} {i c z : Nat} (hi : i < zs.length) (h0 : ∀ k, i ≤ k → zs[k]?.getD 0 = 0)
    (h : val zs + val (ys.take i) = val (xs.take i) + Ba ^ i * c) (hz : z + c + ys[i]?.getD 0 = xs[i]?.getD 0) :
    val (zs.set i z) + val (ys.take (i + 1)) = val (xs.take (i + 1)) + Ba ^ (i + 1) * 0 := by
  have e := val_set z hi
  rw [h0 i (Nat.le_refl _)] at e
  rw [val_take_succ', val_take_succ', ← hz]
  grind
theorem sub_step_yes {xs ys zs : List Nat} {i c z : Nat} (hi : i < zs.length) (h0 : ∀ k, i ≤ k → zs[k]?.getD 0 = 0)
    (h : val zs + val (ys.take i) = val (xs.take i) + Ba ^ i * c) (hz : z + c + ys[i]?.getD 0 = xs[i]?.getD 0 + Ba) :
    val (zs.set i z) + val (ys.take (i + 1)) = val (xs.take (i + 1)) + Ba ^ (i + 1) * 1 := by
  have e := val_set z hi
  rw [h0 i (Nat.le_refl _)] at e
  rw [val_take_succ', val_take_succ', Nat.pow_succ]
  grind
theorem sub_end {xs ys zs : List Nat} {c n : Nat} (hz : Lb zs) (hl : zs.length = n) (hx : val ys ≤ val xs) (h : val zs + val ys = val xs + Ba ^ n * c) : val zs = val xs - val ys := by
  have := val_lt hz
  rw [hl] at this
  rcases Nat.eq_zero_or_pos c with rfl | hc
  · omega
  · have : Ba ^ n * 1 ≤ Ba ^ n * c := Nat.mul_le_mul_left _ hc
    omega

/-- a round of the inner loop of the multiplication -/
theorem mul_step {ys zs : List Nat} {i j c x T : Nat} (hi : i + j < zs.length) (h : val zs + Ba ^ (i + j) * c = T + x * Ba ^ i * val (ys.take j)) :
    val (zs.set (i + j) ((c + x * ys[j]?.getD 0 + zs[i + j]?.getD 0) % Ba)) + Ba ^ (i + (j + 1)) * ((c + x * ys[j]?.getD 0 + zs[i + j]?.getD 0) / Ba) = T + x * Ba ^ i * val (ys.take (j + 1)) := by
  have e := val_set ((c + x * ys[j]?.getD 0 + zs[i + j]?.getD 0) % Ba) hi
  rw [val_take_succ', ← Nat.add_assoc, Nat.pow_succ]
  have hm := Nat.mod_add_div (c + x * ys[j]?.getD 0 + zs[i + j]?.getD 0) Ba
  generalize (c + x * ys[j]?.getD 0 + zs[i + j]?.getD 0) % Ba = r at *
  generalize (c + x * ys[j]?.getD 0 + zs[i + j]?.getD 0) / Ba = q at *
  rw [Nat.pow_add] at *
  grind
theorem mul_carry {c x y z : Nat} (hc : c < Ba) (hx : x < Ba) (hy : y < Ba) (hz : z < Ba) : c + x * y + z < Ba * Ba := by
  have : x * y ≤ (Ba - 1) * (Ba - 1) := Nat.mul_le_mul (by omega) (by omega)
  have e : (Ba - 1) * (Ba - 1) + 2 * (Ba - 1) + 1 = Ba * Ba := by decide
  omega
end Gm
namespace Gm

/-- -1, 0 or 1 -/
def cmpN (m n : Nat) : Int := if m < n then -1 else if n < m then 1 else 0
theorem cmpN_lt {m n : Nat} (h : m < n) : cmpN m n = -1 := by simp [cmpN, h]
theorem cmpN_gt {m n : Nat} (h : n < m) : cmpN m n = 1 := by have : ¬ m < n := by omega
                                                             simp [cmpN, h, this]
theorem cmpN_eq {m n : Nat} (h : m = n) : cmpN m n = 0 := by subst h; simp [cmpN]

theorem val_split {xs : List Nat} {i : Nat} (hi : i < xs.length) : val xs = val (xs.take i) + Ba ^ i * (xs[i]?.getD 0 + Ba * val (xs.drop (i + 1))) := by
  rw [← val_drop hi]; exact val_take_add_drop xs i (by omega)
theorem val_take_lt {xs : List Nat} (h : Lb xs) (i : Nat) : val (xs.take i) < Ba ^ i := by
  have h1 := val_lt (h.take i)
  have h2 : (xs.take i).length ≤ i := by simp; omega
  exact Nat.lt_of_lt_of_le h1 (Nat.pow_le_pow_right Ba_pos h2)

theorem cmp_lt {xs ys : List Nat} {i : Nat} (hx : Lb xs) (hi : i < xs.length) (hj : i < ys.length) (hd : val (xs.drop (i + 1)) = val (ys.drop (i + 1))) (h : xs[i]?.getD 0 < ys[i]?.getD 0) : val xs < val ys := by
  rw [val_split hi, val_split hj, hd]
  have h1 := val_take_lt hx i
  generalize xs[i]?.getD 0 = x at *
  generalize ys[i]?.getD 0 = y at *
  generalize Ba * val (ys.drop (i + 1)) = d
  have h2 : Ba ^ i * (x + d + 1) ≤ Ba ^ i * (y + d) := Nat.mul_le_mul_left _ (by omega)
  rw [Nat.mul_add, Nat.mul_one] at h2
  omega
theorem drop_eq_step {xs ys : List Nat} {i : Nat} (hi : i < xs.length) (hj : i < ys.length) (hd : val (xs.drop (i + 1)) = val (ys.drop (i + 1))) (h : xs[i]?.getD 0 = ys[i]?.getD 0) : val (xs.drop i) = val (ys.drop i) := by
  rw [val_drop hi, val_drop hj, hd, h]

theorem val_two (v : Nat) : val [v % Ba, v / Ba] = v := by
  simp only [val]
  have := Nat.mod_add_div v Ba
  omega
theorem Lb_two {v : Nat} (h : v < Ba * Ba) : Lb [v % Ba, v / Ba] :=
  Lb_cons (Nat.mod_lt _ Ba_pos) (Lb_cons (Nat.div_lt_of_lt_mul h) Lb_nil)
theorem limbs_two {n : Nat} : (limbs n).length ≤ 2 ↔ n < Ba * Ba := by
  constructor
  · intro h
    have h1 := val_lt (Lb_limbs n)
    rw [val_limbs] at h1
    have h2 : Ba ^ (limbs n).length ≤ Ba ^ 2 := Nat.pow_le_pow_right Ba_pos h
    have e : Ba ^ 2 = Ba * Ba := by decide
    omega
  · intro h
    exact limbs_length_lt (by have e : Ba ^ 2 = Ba * Ba := by decide
                              omega)
end Gm
namespace Gm

/-- the value of n + 2 limbs by their upper parts: U = top * P + low, low < P -/
theorem kn_ge {U V Q top v1 P lowV : Nat} (hV : V = v1 * P + lowV) (hU : U < (top + 1) * P) (hQ : Q * V ≤ U) : Q * v1 ≤ top := by
  rcases Nat.lt_or_ge top (Q * v1) with h | h
  · exfalso
    have h1 : (top + 1) * P ≤ Q * v1 * P := Nat.mul_le_mul_right P h
    have h2 : Q * v1 * P ≤ Q * V := by rw [hV, Nat.mul_assoc]; exact Nat.mul_le_mul_left _ (by omega)
    omega
  · exact h

/-- a digit that fails the test with three limbs is too large -/
theorem kn_too_large {U V Q top v1 v2 u0 P lowV rest : Nat} (hV : V = (v1 * Ba + v2) * P + lowV) (hU : U < (top * Ba + u0 + 1) * P) (hQ : Q * V ≤ U)
    (hd : Q * v1 + rest = top) : Q * v2 ≤ rest * Ba + u0 := by
  have h := kn_ge (top := top * Ba + u0) (v1 := v1 * Ba + v2) hV hU hQ
  subst hd
  have e : Q * (v1 * Ba + v2) = Q * v1 * Ba + Q * v2 := by grind
  have e2 : (Q * v1 + rest) * Ba = Q * v1 * Ba + rest * Ba := by grind
  omega

/-- a digit that passes the test with three limbs is at most 1 too large -/
theorem kn_le {U V d top v1 v2 u0 P lowV lowU rest : Nat} (hv1 : 0 < v1) (hd1 : d < Ba) (hV : V = (v1 * Ba + v2) * P + lowV) (hlow : lowV < P) (hU : U = (top * Ba + u0) * P + lowU)
    (hd : d * v1 + rest = top) (ht : d * v2 ≤ rest * Ba + u0) : d * V ≤ U + V := by
  have h1 : d * (v1 * Ba + v2) ≤ top * Ba + u0 := by
    subst hd
    have e : d * (v1 * Ba + v2) = d * v1 * Ba + d * v2 := by grind
    have e2 : (d * v1 + rest) * Ba = d * v1 * Ba + rest * Ba := by grind
    omega
  have h2 : d * (v1 * Ba + v2) * P ≤ (top * Ba + u0) * P := Nat.mul_le_mul_right _ h1
  have h3 : d * lowV ≤ Ba * P := Nat.mul_le_mul (by omega) (by omega)
  have h4 : Ba * P ≤ V := by
    rw [hV]
    have : Ba * P ≤ (v1 * Ba + v2) * P := Nat.mul_le_mul_right _ (by have := Nat.mul_le_mul_right Ba hv1; omega)
    omega
  have e3 : d * V = d * (v1 * Ba + v2) * P + d * lowV := by rw [hV, Nat.mul_add, Nat.mul_assoc]
  omega

/-- the quotient from its bounds -/
theorem kn_quot {U V d : Nat} (hV : 0 < V) (hge : U / V ≤ d) (hle : d * V ≤ U + V) : d = U / V ∨ d = U / V + 1 := by
  have h1 := Nat.div_add_mod U V
  have h2 := Nat.mod_lt U hV
  rcases Nat.lt_or_ge (U / V + 1) d with h | h
  · exfalso
    have h3 : (U / V + 2) * V ≤ d * V := Nat.mul_le_mul_right _ h
    have e : (U / V + 2) * V = V * (U / V) + 2 * V := by grind
    omega
  · omega
theorem kn_exact {U V d : Nat} (hV : 0 < V) (hd : d = U / V ∨ d = U / V + 1) (hle : d * V ≤ U) : d = U / V := by
  rcases hd with h | h
  · exact h
  · exfalso
    have h1 := Nat.div_add_mod U V
    have h2 := Nat.mod_lt U hV
    rw [h] at hle
    have e : (U / V + 1) * V = V * (U / V) + V := by grind
    omega
theorem kn_back {U V d : Nat} (hd : d = U / V ∨ d = U / V + 1) (hgt : U < d * V) : d = U / V + 1 := by
  rcases hd with h | h
  · exfalso
    have h1 := Nat.div_mul_le_self U V
    rw [h] at hgt
    omega
  · exact h
theorem div_lt_of {U V : Nat} (h : U < V * Ba) : U / V < Ba := Nat.div_lt_of_lt_mul h
end Gm
namespace Gm

/-- what the simulation of Euclid's algorithm on the leading bits keeps -/
structure LI (X Y x y u0 u1 u2 v0 v1 v2 : Nat) (even : Bool) : Prop where
  le : y ≤ x
  hv : x * v2 + y * v1 = X
  hu : x * u2 + y * u1 = Y
  v2pos : 1 ≤ v2
  u2v2 : u2 ≤ v2
  first : (v1 = 0 ∧ u1 = 1 ∧ u2 = 0 ∧ v2 = 1) ∨ (1 ≤ v1 ∧ u1 ≤ v1)
  par : if even then (x + u1 * X = v1 * Y ∧ y + v2 * Y = u2 * X ∧ u2 * v1 = u1 * v2 + 1) else (x + v1 * Y = u1 * X ∧ y + u2 * X = v2 * Y ∧ u1 * v2 = u2 * v1 + 1)
  last : v0 = 0 ∨ (∃ xp, (if even then (xp + v0 * Y = u0 * X ∧ u0 * v1 = u1 * v0 + 1) else (xp + u0 * X = v0 * Y ∧ u1 * v0 = u0 * v1 + 1)) ∧ v1 ≤ x ∧ x + (v0 + v1) ≤ xp ∧ 1 ≤ v1 ∧ u0 ≤ v0 ∧ u1 ≤ v1)

theorem LI.start {X Y : Nat} (h : Y ≤ X) : LI X Y X Y 0 1 0 0 0 1 false where
  le := h
  hv := by simp
  hu := by simp
  v2pos := by simp
  u2v2 := by simp
  first := .inl ⟨rfl, rfl, rfl, rfl⟩
  par := by simp
  last := .inl rfl

theorem LI.step {X Y x y u0 u1 u2 v0 v1 v2 : Nat} {even : Bool} (h : LI X Y x y u0 u1 u2 v0 v1 v2 even) (hy : v2 ≤ y) (hxy : v1 + v2 ≤ x - y) :
    LI X Y y (x % y) u1 u2 (u1 + x / y * u2) v1 v2 (v1 + x / y * v2) (!even) := by
  have ypos : 0 < y := by have := h.v2pos; omega
  have hq : 1 ≤ x / y := Nat.div_pos h.le ypos
  have hm := Nat.mod_add_div x y
  have hlt := Nat.mod_lt x ypos
  have hle := h.le
  have hpar := h.par
  have hv := h.hv
  have hu := h.hu
  have hv2 := h.v2pos
  have huv := h.u2v2
  have hf := h.first
  generalize x / y = q at *
  generalize x % y = r at *
  refine ⟨by omega, by rw [← hm] at hv; grind, by rw [← hm] at hu; grind, ?_, ?_, .inr ⟨hv2, huv⟩, ?_, ?_⟩
  · have : 1 * 1 ≤ q * v2 := Nat.mul_le_mul hq hv2
    omega
  · rcases hf with ⟨h1, h2, h3, h4⟩ | ⟨_, h2⟩
    · subst h1 h2 h3 h4; omega
    · have : q * u2 ≤ q * v2 := Nat.mul_le_mul_left _ huv
      omega
  · cases even
    · simp only [Bool.false_eq_true, if_false, Bool.not_false, if_true] at hpar ⊢
      obtain ⟨p1, p2, p3⟩ := hpar
      refine ⟨by omega, ?_, ?_⟩
      · rw [← hm] at p1; grind
      · grind
    · simp only [Bool.not_true, Bool.false_eq_true, if_false, if_true] at hpar ⊢
      obtain ⟨p1, p2, p3⟩ := hpar
      refine ⟨by omega, ?_, ?_⟩
      · rw [← hm] at p1; grind
      · grind
  · rcases hf with ⟨h1, _⟩ | ⟨h1, h2⟩
    · exact .inl h1
    · refine .inr ⟨x, ?_, hy, by omega, hv2, h2, huv⟩
      cases even
      · simp only [Bool.false_eq_true, if_false, Bool.not_false, if_true] at hpar ⊢
        exact ⟨hpar.1, hpar.2.2⟩
      · simp only [Bool.not_true, Bool.false_eq_true, if_false, if_true] at hpar ⊢
        exact ⟨hpar.1, hpar.2.2⟩

/-- the bounds by which nothing wraps in a round -/
theorem LI.bounds {X Y x y u0 u1 u2 v0 v1 v2 : Nat} {even : Bool} (h : LI X Y x y u0 u1 u2 v0 v1 v2 even) (hy : v2 ≤ y) :
    0 < y ∧ x ≤ X ∧ v1 + v2 ≤ X ∧ v1 + x / y * v2 ≤ X ∧ u1 + x / y * u2 ≤ Y + 1 := by
  have ypos : 0 < y := by have := h.v2pos; omega
  have hle := h.le
  have hv := h.hv
  have hu := h.hu
  have hm := Nat.mod_add_div x y
  have hv2 := h.v2pos
  generalize x / y = q at *
  generalize x % y = r at *
  have h1 : x * 1 ≤ x * v2 := Nat.mul_le_mul_left _ hv2
  have h2 : 1 * v2 ≤ x * v2 := Nat.mul_le_mul_right _ (by omega)
  have h3 : 1 * v1 ≤ y * v1 := Nat.mul_le_mul_right _ ypos
  have e1 : y * (v1 + q * v2) + r * v2 = X := by rw [← hm] at hv; grind
  have h4 : 1 * (v1 + q * v2) ≤ y * (v1 + q * v2) := Nat.mul_le_mul_right _ ypos
  have e2 : y * (u1 + q * u2) + r * u2 = Y := by rw [← hm] at hu; grind
  have h5 : 1 * (u1 + q * u2) ≤ y * (u1 + q * u2) := Nat.mul_le_mul_right _ ypos
  exact ⟨ypos, by omega, by omega, by omega, by omega⟩

theorem gcd_of_combination {A B a b p q r s : Nat} (h1 : A = p * a + q * b) (h2 : B = r * a + s * b) {p' q' r' s' : Nat} (h3 : a + q' * B = p' * A) (h4 : b + r' * A = s' * B) : Nat.gcd a b = Nat.gcd A B := by
  apply Nat.dvd_antisymm
  · apply Nat.dvd_gcd
    · rw [h1]; exact Nat.dvd_add (Nat.dvd_mul_left_of_dvd (Nat.gcd_dvd_left _ _) _) (Nat.dvd_mul_left_of_dvd (Nat.gcd_dvd_right _ _) _)
    · rw [h2]; exact Nat.dvd_add (Nat.dvd_mul_left_of_dvd (Nat.gcd_dvd_left _ _) _) (Nat.dvd_mul_left_of_dvd (Nat.gcd_dvd_right _ _) _)
  · apply Nat.dvd_gcd
    · have e : Nat.gcd A B ∣ a + q' * B := by rw [h3]; exact Nat.dvd_mul_left_of_dvd (Nat.gcd_dvd_left _ _) _
      exact (Nat.dvd_add_left (Nat.dvd_mul_left_of_dvd (Nat.gcd_dvd_right A B) _)).1 e
    · have e : Nat.gcd A B ∣ b + r' * A := by rw [h4]; exact Nat.dvd_mul_left_of_dvd (Nat.gcd_dvd_right _ _) _
      exact (Nat.dvd_add_left (Nat.dvd_mul_left_of_dvd (Nat.gcd_dvd_left A B) _)).1 e

/-- the step with the cofactors of the leading bits, as the code takes it -/
theorem LI.finish {A B D x y u0 u1 u2 v0 v1 v2 : Nat} {even : Bool} (hD : 0 < D) (h : LI (A / D) (B / D) x y u0 u1 u2 v0 v1 v2 even) (h0 : v0 ≠ 0) {a b : Nat}
    (ha : a = if even then A * u0 - B * v0 else B * v0 - A * u0) (hb : b = if even then B * v1 - A * u1 else A * u1 - B * v1) :
    (if even then B * v0 ≤ A * u0 else A * u0 ≤ B * v0) ∧ (if even then A * u1 ≤ B * v1 else B * v1 ≤ A * u1) ∧ b ≤ a ∧ a + b ≤ A ∧ Nat.gcd a b = Nat.gcd A B := by
  rcases h.last with h1 | ⟨xp, hp, hx, hxp, hv1, hu0, hu1⟩
  · exact absurd h1 h0
  have hpar := h.par
  have eA := Nat.div_add_mod A D
  have eB := Nat.div_add_mod B D
  have lA := Nat.mod_lt A hD
  have lB := Nat.mod_lt B hD
  generalize A / D = X at *
  generalize B / D = Y at *
  generalize A % D = α at *
  generalize B % D = β at *
  have b1 : u1 * α ≤ v1 * D := Nat.mul_le_mul hu1 (by omega)
  have b2 : v1 * β ≤ v1 * D := Nat.mul_le_mul_left _ (by omega)
  have b3 : (u0 + u1) * α ≤ (v0 + v1) * D := Nat.mul_le_mul (by omega) (by omega)
  have b4 : (v0 + v1) * β ≤ (v0 + v1) * D := Nat.mul_le_mul_left _ (by omega)
  have b5 : v1 * D ≤ x * D := Nat.mul_le_mul_right _ hx
  have b6 : (x + (v0 + v1)) * D ≤ xp * D := Nat.mul_le_mul_right _ hxp
  have hv0 : 1 ≤ v0 := by omega
  cases even
  · simp only [Bool.false_eq_true, if_false] at *
    obtain ⟨p1, p2, p3⟩ := hpar
    obtain ⟨q1, q2⟩ := hp
    have f1 : A * u1 + v1 * β = B * v1 + x * D + u1 * α := by
      have : D * (x + v1 * Y) = D * (u1 * X) := by rw [p1]
      subst eA; subst eB; grind
    have f2 : B * v0 + u0 * α = A * u0 + xp * D + v0 * β := by
      have : D * (xp + u0 * X) = D * (v0 * Y) := by rw [q1]
      subst eA; subst eB; grind
    have g1 : B * v1 ≤ A * u1 := by omega
    have e6 : (x + (v0 + v1)) * D = x * D + (v0 + v1) * D := by grind
    have e7 : (u0 + u1) * α = u0 * α + u1 * α := by grind
    have e8 : (v0 + v1) * β = v0 * β + v1 * β := by grind
    have g2 : A * u0 ≤ B * v0 := by omega
    have g3 : b ≤ a := by omega
    have k1 : a + A * u0 = B * v0 := by omega
    have k2 : b + B * v1 = A * u1 := by omega
    have k3 : A = v1 * a + v0 * b := by grind
    have k4 : B = u1 * a + u0 * b := by grind
    refine ⟨g2, g1, g3, ?_, ?_⟩
    · have : 1 * a ≤ v1 * a := Nat.mul_le_mul_right _ hv1
      have : 1 * b ≤ v0 * b := Nat.mul_le_mul_right _ hv0
      omega
    · rw [Nat.gcd_comm A B]
      exact gcd_of_combination (p := u1) (q := u0) (r := v1) (s := v0) k4 k3 (q' := u0) (p' := v0) (r' := v1) (s' := u1) (by grind) (by grind)
  · simp only [if_true] at *
    obtain ⟨p1, p2, p3⟩ := hpar
    obtain ⟨q1, q2⟩ := hp
    have f1 : B * v1 + u1 * α = A * u1 + x * D + v1 * β := by
      have : D * (x + u1 * X) = D * (v1 * Y) := by rw [p1]
      subst eA; subst eB; grind
    have f2 : A * u0 + v0 * β = B * v0 + xp * D + u0 * α := by
      have : D * (xp + v0 * Y) = D * (u0 * X) := by rw [q1]
      subst eA; subst eB; grind
    have g1 : A * u1 ≤ B * v1 := by omega
    have e6 : (x + (v0 + v1)) * D = x * D + (v0 + v1) * D := by grind
    have e7 : (u0 + u1) * α = u0 * α + u1 * α := by grind
    have e8 : (v0 + v1) * β = v0 * β + v1 * β := by grind
    have g2 : B * v0 ≤ A * u0 := by omega
    have g3 : b ≤ a := by omega
    have k1 : a + B * v0 = A * u0 := by omega
    have k2 : b + A * u1 = B * v1 := by omega
    have k3 : A = v1 * a + v0 * b := by grind
    have k4 : B = u1 * a + u0 * b := by grind
    refine ⟨g2, g1, g3, ?_, ?_⟩
    · have : 1 * a ≤ v1 * a := Nat.mul_le_mul_right _ hv1
      have : 1 * b ≤ v0 * b := Nat.mul_le_mul_right _ hv0
      omega
    · exact gcd_of_combination (p := v1) (q := v0) (r := u1) (s := u0) k3 k4 (q' := v0) (p' := u0) (r' := u1) (s' := v1) (by grind) (by grind)
end Gm

/- Plain arithmetic: shifts, the digits of the long division in a row of limbs. No program in sight. -/
namespace Gm

/-- limbs from m on are 0 exactly if the value is below Ba ^ m -/
theorem val_take_of_zero {zs : List Nat} {m : Nat} (h : ∀ k, m ≤ k → zs[k]?.getD 0 = 0) : val (zs.take m) = val zs := by
  induction zs generalizing m with
  | nil => simp
  | cons z zs ih =>
    cases m with
    | zero =>
      have h0 : z = 0 := by simpa using h 0 (Nat.le_refl _)
      have h1 := ih (m := 0) (fun k _ => by simpa using h (k + 1) (by omega))
      simp only [List.take_zero, val] at h1 ⊢
      rw [← h1, h0]; rfl
    | succ m =>
      have h1 := ih (m := m) (fun k hk => by simpa using h (k + 1) (by omega))
      simp only [List.take_succ_cons, val, h1]
theorem zero_of_val {zs : List Nat} {m : Nat} (h : val zs < Ba ^ m) : ∀ k, m ≤ k → zs[k]?.getD 0 = 0 := by
  induction zs generalizing m with
  | nil => intro k _; simp
  | cons z zs ih =>
    intro k hk
    cases m with
    | zero =>
      have h0 : val (z :: zs) = 0 := by simpa using h
      simp only [val] at h0
      have hz : z = 0 := by omega
      have hv : val zs = 0 := by
        rcases Nat.eq_zero_or_pos (val zs) with h1 | h1
        · exact h1
        · have := Nat.mul_pos Ba_pos h1; omega
      cases k with
      | zero => simpa using hz
      | succ k => simpa using ih (m := 0) (by rw [hv]; simp) k (Nat.zero_le _)
    | succ m =>
      cases k with
      | zero => omega
      | succ k =>
        have h1 : val zs < Ba ^ m := by
          simp only [val, Nat.pow_succ] at h
          rcases Nat.lt_or_ge (val zs) (Ba ^ m) with h2 | h2
          · exact h2
          · have h3 : Ba ^ m * Ba ≤ val zs * Ba := Nat.mul_le_mul_right _ h2
            rw [Nat.mul_comm (val zs)] at h3
            omega
        simpa using ih h1 k (by omega)
theorem val_lt_of_zero {zs : List Nat} {m : Nat} (hz : Lb zs) (h : ∀ k, m ≤ k → zs[k]?.getD 0 = 0) : val zs < Ba ^ m := by
  rw [← val_take_of_zero h]; exact val_take_lt hz m

/-- a round of a shift to the left by s bits -/
theorem shl_step {xs zs : List Nat} {i c s : Nat} (hi : i < zs.length) (h0 : ∀ k, i ≤ k → zs[k]?.getD 0 = 0)
    (h : val zs + Ba ^ i * c = val (xs.take i) * 2 ^ s) :
    val (zs.set i ((c + xs[i]?.getD 0 * 2 ^ s) % Ba)) + Ba ^ (i + 1) * ((c + xs[i]?.getD 0 * 2 ^ s) / Ba) = val (xs.take (i + 1)) * 2 ^ s := by
  have e := val_set ((c + xs[i]?.getD 0 * 2 ^ s) % Ba) hi
  rw [h0 i (Nat.le_refl _)] at e
  rw [val_take_succ', Nat.pow_succ]
  have hm := Nat.mod_add_div (c + xs[i]?.getD 0 * 2 ^ s) Ba
  generalize (c + xs[i]?.getD 0 * 2 ^ s) % Ba = r at *
  generalize (c + xs[i]?.getD 0 * 2 ^ s) / Ba = q at *
  grind
theorem shl_carry {c x p : Nat} (hc : c < p) (hx : x < Ba) : (c + x * p) / Ba < p := by
  apply Nat.div_lt_of_lt_mul
  have h1 : (x + 1) * p ≤ Ba * p := Nat.mul_le_mul_right _ hx
  rw [Nat.add_mul, Nat.one_mul] at h1
  omega

/-- a round of the multiplication and subtraction of a digit -/
theorem ms_step {zs vs : List Nat} {j i c d z c' T : Nat} (hi : j + i < zs.length) (h : val zs + Ba ^ j * (d * val (vs.take i)) = T + Ba ^ (j + i) * c)
    (hz : z + (d * vs[i]?.getD 0 + c) = zs[j + i]?.getD 0 + Ba * c') :
    val (zs.set (j + i) z) + Ba ^ j * (d * val (vs.take (i + 1))) = T + Ba ^ (j + (i + 1)) * c' := by
  have e := val_set z hi
  rw [val_take_succ', ← Nat.add_assoc, Nat.pow_succ]
  rw [Nat.pow_add] at *
  generalize zs[j + i]?.getD 0 = y at *
  generalize vs[i]?.getD 0 = x at *
  generalize val (zs.set (j + i) z) = A at *
  generalize val (vs.take i) = B at *
  generalize Ba ^ j = p at *
  generalize Ba ^ i = q at *
  generalize Ba = b at *
  have hz' : p * q * (z + (d * x + c)) = p * q * (y + b * c') := by rw [hz]
  grind
theorem ms_carry {d x c y : Nat} (hd : d < Ba) (hx : x < Ba) (hc : c < Ba) (hy : y < Ba) :
    d * x + c < Ba * Ba ∧ (d * x + c) / Ba < Ba ∧ (y < (d * x + c) % Ba → (d * x + c) / Ba + 1 < Ba) := by
  have h1 : d * x ≤ (Ba - 1) * (Ba - 1) := Nat.mul_le_mul (by omega) (by omega)
  have e : (Ba - 1) * (Ba - 1) + (Ba - 1) = (Ba - 1) * Ba := by decide
  have e2 : (Ba - 1) * Ba < Ba * Ba := by decide
  have h2 : d * x + c ≤ (Ba - 1) * Ba := by omega
  clear h1 e
  generalize d * x + c = p at *
  have hm := Nat.mod_add_div p Ba
  refine ⟨by omega, Nat.div_lt_of_lt_mul (by omega), fun h => ?_⟩
  rcases Nat.lt_or_ge (p / Ba + 1) Ba with h3 | h3
  · exact h3
  · exfalso
    have h4 : (Ba - 1) * Ba ≤ p / Ba * Ba := Nat.mul_le_mul_right _ (by omega)
    rw [Nat.mul_comm (p / Ba)] at h4
    omega
/-- a round of the addition that takes a digit back -/
theorem ab_step {zs vs : List Nat} {j i c T : Nat} (hi : j + i < zs.length) (h : val zs + Ba ^ (j + i) * c = T + Ba ^ j * val (vs.take i)) :
    val (zs.set (j + i) ((c + (zs[j + i]?.getD 0 + vs[i]?.getD 0)) % Ba)) + Ba ^ (j + (i + 1)) * ((c + (zs[j + i]?.getD 0 + vs[i]?.getD 0)) / Ba) = T + Ba ^ j * val (vs.take (i + 1)) := by
  have e := val_set ((c + (zs[j + i]?.getD 0 + vs[i]?.getD 0)) % Ba) hi
  rw [val_take_succ', show j + (i + 1) = j + i + 1 from rfl, Nat.pow_succ]
  have hm := Nat.mod_add_div (c + (zs[j + i]?.getD 0 + vs[i]?.getD 0)) Ba
  generalize (c + (zs[j + i]?.getD 0 + vs[i]?.getD 0)) % Ba = r at *
  generalize (c + (zs[j + i]?.getD 0 + vs[i]?.getD 0)) / Ba = q at *
  rw [Nat.pow_add] at *
  grind
theorem ab_top {zs : List Nat} {k c T u : Nat} (hk : k < zs.length) (hu : zs[k]?.getD 0 = u) (h : val zs + Ba ^ k * c = T) : val (zs.set k ((u + c) % Ba)) + Ba ^ (k + 1) * ((u + c) / Ba) = T := by
  have e := val_set ((u + c) % Ba) hk
  rw [hu] at e
  have hm := Nat.mod_add_div (u + c) Ba
  generalize (u + c) % Ba = r at *
  generalize (u + c) / Ba = q at *
  rw [Nat.pow_succ]
  have e2 : Ba ^ k * (r + Ba * q) = Ba ^ k * (u + c) := by rw [hm]
  grind
/-- the top limb behind it -/
theorem ms_top {zs : List Nat} {k z c T D u : Nat} (hk : k < zs.length) (hu : zs[k]?.getD 0 = u) (h : val zs + D = T + Ba ^ k * c) (hz : z + c = u) : val (zs.set k z) + D = T := by
  have e := val_set z hk
  rw [hu, ← hz, Nat.mul_add] at e
  omega
theorem ms_top' {zs : List Nat} {k z c T D u : Nat} (hk : k < zs.length) (hu : zs[k]?.getD 0 = u) (h : val zs + D = T + Ba ^ k * c) (hz : z + c = u + Ba) : val (zs.set k z) + D = T + Ba ^ (k + 1) := by
  have e := val_set z hk
  rw [hu] at e
  have e2 : Ba ^ k * (z + c) = Ba ^ k * (u + Ba) := by rw [hz]
  rw [Nat.mul_add, Nat.mul_add] at e2
  rw [Nat.pow_succ]
  omega

/-- what the three leading limbs say -/
structure Kn (zs vs : List Nat) (j m : Nat) : Prop where
  len : vs.length = m + 2
  lbv : Lb vs
  lbz : Lb zs
  fit : j + m + 2 < zs.length
  norm : Ba ≤ 2 * vs[m + 1]?.getD 0
  top : val zs < val vs * Ba ^ (j + 1)

section
variable {zs vs : List Nat} {j m : Nat}
theorem Kn.V (h : Kn zs vs j m) : val vs = (vs[m + 1]?.getD 0 * Ba + vs[m]?.getD 0) * Ba ^ m + val (vs.take m) := by
  have hl := h.len
  have h1 := val_take_add_drop vs m (by omega)
  have h2 := val_drop (xs := vs) (k := m) (by omega)
  have h3 := val_drop (xs := vs) (k := m + 1) (by omega)
  rw [List.drop_of_length_le (show vs.length ≤ m + 1 + 1 by omega)] at h3
  rw [h1, h2, h3, val]
  generalize vs[m + 1]?.getD 0 = a
  generalize vs[m]?.getD 0 = b
  grind
theorem Kn.v1 (h : Kn zs vs j m) : 2147483648 ≤ vs[m + 1]?.getD 0 ∧ vs[m + 1]?.getD 0 < 4294967296 := by
  have h1 := h.norm
  have h2 := h.lbv.get (m + 1)
  rw [Ba_eq] at h1 h2
  omega
theorem Kn.low (h : Kn zs vs j m) : val (vs.take m) < Ba ^ m := val_take_lt h.lbv m
theorem Kn.Vlt (h : Kn zs vs j m) : val vs < Ba ^ (m + 2) := by have := val_lt h.lbv; rw [h.len] at this; exact this
theorem Kn.Vpos (h : Kn zs vs j m) : 0 < val vs := by
  rw [h.V]
  have h1 := h.v1.1
  have : 0 < (vs[m + 1]?.getD 0 * Ba + vs[m]?.getD 0) * Ba ^ m := Nat.mul_pos (by have := Nat.mul_pos (show 0 < vs[m + 1]?.getD 0 by omega) Ba_pos; omega) (Nat.pow_pos Ba_pos)
  omega
theorem Kn.split (h : Kn zs vs j m) : val zs = val (zs.take j) + Ba ^ j * val (zs.drop j) := val_take_add_drop zs j (by have := h.fit; omega)
theorem Kn.Ult (h : Kn zs vs j m) : val (zs.drop j) < val vs * Ba := by
  have h1 := h.split
  have h2 := h.top
  rw [Nat.pow_succ] at h2
  rcases Nat.lt_or_ge (val (zs.drop j)) (val vs * Ba) with h3 | h3
  · exact h3
  · have h4 : Ba ^ j * (val vs * Ba) ≤ Ba ^ j * val (zs.drop j) := Nat.mul_le_mul_left _ h3
    have e : Ba ^ j * (val vs * Ba) = val vs * (Ba ^ j * Ba) := by grind
    omega
theorem Kn.zero (h : Kn zs vs j m) : ∀ k, j + m + 3 ≤ k → zs[k]?.getD 0 = 0 := by
  apply zero_of_val
  have h1 := h.top
  have h2 : val vs * Ba ^ (j + 1) ≤ Ba ^ (m + 2) * Ba ^ (j + 1) := Nat.mul_le_mul_right _ (Nat.le_of_lt h.Vlt)
  rw [← Nat.pow_add] at h2
  have e : m + 2 + (j + 1) = j + m + 3 := by omega
  rw [e] at h2
  omega
theorem Kn.U (h : Kn zs vs j m) : val (zs.drop j) = ((zs[j + m + 2]?.getD 0 * Ba + zs[j + m + 1]?.getD 0) * Ba + zs[j + m]?.getD 0) * Ba ^ m + val ((zs.drop j).take m) := by
  have hf := h.fit
  have h1 := val_take_add_drop (zs.drop j) m (by simp; omega)
  rw [List.drop_drop] at h1
  have h2 := val_drop (xs := zs) (k := j + m) (by omega)
  have h3 := val_drop (xs := zs) (k := j + m + 1) (by omega)
  have h4 := val_drop (xs := zs) (k := j + m + 2) (by omega)
  have h5 : val (zs.drop (j + m + 2 + 1)) = 0 := by
    have e := val_take_of_zero (zs := zs.drop (j + m + 2 + 1)) (m := 0) (fun k _ => by rw [List.getElem?_drop]; exact h.zero _ (by omega))
    rw [← e]; rfl
  rw [h1, h2, h3, h4, h5]
  generalize zs[j + m + 2]?.getD 0 = a
  generalize zs[j + m + 1]?.getD 0 = b
  generalize zs[j + m]?.getD 0 = c
  grind
theorem Kn.ulow (h : Kn zs vs j m) : val ((zs.drop j).take m) < Ba ^ m := val_take_lt (h.lbz.drop j) m
/-- the top limb is at most that of the divisor -/
theorem Kn.u2 (h : Kn zs vs j m) : zs[j + m + 2]?.getD 0 ≤ vs[m + 1]?.getD 0 := by
  rcases Nat.lt_or_ge (vs[m + 1]?.getD 0) (zs[j + m + 2]?.getD 0) with hlt | hge
  · exfalso
    have h1 := h.Ult
    have h2 := h.U
    have h3 := h.V
    have h4 := h.low
    have h5 := h.lbv.get m
    generalize vs[m + 1]?.getD 0 = a at *
    generalize vs[m]?.getD 0 = b at *
    generalize zs[j + m + 2]?.getD 0 = u at *
    have e1 : val vs < (a + 1) * Ba * Ba ^ m := by
      have : (a * Ba + b + 1) * Ba ^ m ≤ (a + 1) * Ba * Ba ^ m := Nat.mul_le_mul_right _ (by rw [Nat.add_mul]; omega)
      rw [Nat.add_mul] at this
      omega
    have e2 : (a + 1) * Ba * Ba ^ m * Ba ≤ u * Ba * Ba * Ba ^ m := by
      have : (a + 1) * (Ba * Ba * Ba ^ m) ≤ u * (Ba * Ba * Ba ^ m) := Nat.mul_le_mul_right _ hlt
      grind
    have e3 : val vs * Ba ≤ (a + 1) * Ba * Ba ^ m * Ba := Nat.mul_le_mul_right _ (Nat.le_of_lt e1)
    have e4 : u * Ba * Ba * Ba ^ m ≤ val (zs.drop j) := by rw [h2]; grind
    omega
  · exact hge

/-- what the search for the digit keeps -/
structure Dg (zs vs : List Nat) (j m d rest : Nat) : Prop where
  eq : d * vs[m + 1]?.getD 0 + rest = zs[j + m + 2]?.getD 0 * Ba + zs[j + m + 1]?.getD 0
  ge : val (zs.drop j) / val vs ≤ d
  le : d ≤ Ba + 1

theorem Dg.start (h : Kn zs vs j m) {t : Nat} (ht : t = zs[j + m + 2]?.getD 0 * Ba + zs[j + m + 1]?.getD 0) : Dg zs vs j m (t / vs[m + 1]?.getD 0) (t % vs[m + 1]?.getD 0) := by
  have hv1 := h.v1
  have hp : 0 < vs[m + 1]?.getD 0 := by omega
  refine ⟨by rw [← ht, Nat.mul_comm]; exact Nat.div_add_mod _ _, ?_, ?_⟩
  · rw [Nat.le_div_iff_mul_le hp]
    refine kn_ge (V := val vs) (U := val (zs.drop j)) (P := Ba ^ (m + 1)) (lowV := vs[m]?.getD 0 * Ba ^ m + val (vs.take m)) ?_ ?_ (Nat.div_mul_le_self _ _)
    · rw [h.V, Nat.pow_succ]; grind
    · rw [h.U, ← ht, Nat.pow_succ]
      have h1 := h.ulow
      have h2 := h.lbz.get (j + m)
      generalize zs[j + m]?.getD 0 = c at *
      have : (c + 1) * Ba ^ m ≤ Ba * Ba ^ m := Nat.mul_le_mul_right _ h2
      have e1 : (t * Ba + c) * Ba ^ m = t * (Ba ^ m * Ba) + c * Ba ^ m := by grind
      have e2 : (t + 1) * (Ba ^ m * Ba) = t * (Ba ^ m * Ba) + Ba * Ba ^ m := by grind
      rw [Nat.add_mul] at this
      omega
  · have h1 := h.u2
    have h2 := h.lbz.get (j + m + 1)
    apply Nat.le_of_lt_succ
    apply Nat.div_lt_of_lt_mul
    rw [ht]
    generalize vs[m + 1]?.getD 0 = v at *
    generalize zs[j + m + 2]?.getD 0 = u at *
    generalize zs[j + m + 1]?.getD 0 = u' at *
    rw [Ba_eq] at *
    omega
theorem Kn.Q_lt (h : Kn zs vs j m) : val (zs.drop j) / val vs < Ba := div_lt_of h.Ult
/-- a digit that is found too large -/
theorem Dg.down (h : Kn zs vs j m) {d rest : Nat} (k : Dg zs vs j m d rest) (hd : Ba ≤ d ∨ rest * Ba + zs[j + m]?.getD 0 < d * vs[m]?.getD 0) :
    0 < d ∧ Dg zs vs j m (d - 1) (rest + vs[m + 1]?.getD 0) := by
  have hge : val (zs.drop j) / val vs < d := by
    rcases hd with h1 | h1
    · have := h.Q_lt; omega
    · rcases Nat.lt_or_ge (val (zs.drop j) / val vs) d with h2 | h2
      · exact h2
      · exfalso
        have e : val (zs.drop j) / val vs = d := Nat.le_antisymm k.ge h2
        have h3 := kn_too_large (U := val (zs.drop j)) (V := val vs) (Q := d) (top := zs[j + m + 2]?.getD 0 * Ba + zs[j + m + 1]?.getD 0) (v1 := vs[m + 1]?.getD 0) (v2 := vs[m]?.getD 0) (u0 := zs[j + m]?.getD 0) (P := Ba ^ m) (lowV := val (vs.take m)) (rest := rest) h.V
          (by rw [h.U, Nat.add_mul _ 1 (Ba ^ m)]; have := h.ulow; omega) (by rw [← e]; exact Nat.div_mul_le_self _ _) k.eq
        omega
  have hk := k.le
  refine ⟨Nat.lt_of_le_of_lt (Nat.zero_le _) hge, ?_, Nat.le_sub_one_of_lt hge, Nat.le_trans (Nat.sub_le _ _) hk⟩
  have hd0 : 0 < d := Nat.lt_of_le_of_lt (Nat.zero_le _) hge
  clear hge
  rw [← k.eq]
  obtain ⟨e, rfl⟩ : ∃ e, d = e + 1 := ⟨d - 1, by omega⟩
  rw [Nat.add_sub_cancel, Nat.add_mul]
  omega
/-- the digit that is taken is right or 1 too large -/
theorem Dg.found (h : Kn zs vs j m) {d rest : Nat} (k : Dg zs vs j m d rest) (hd : (d < Ba ∧ d * vs[m]?.getD 0 ≤ rest * Ba + zs[j + m]?.getD 0) ∨ Ba ≤ rest) :
    d < Ba ∧ (d = val (zs.drop j) / val vs ∨ d = val (zs.drop j) / val vs + 1) := by
  have hv1 := h.v1
  have hdlt : d < Ba := by
    rcases hd with h1 | h1
    · exact h1.1
    · have h2 := k.eq
      have h3 := h.u2
      have h4 := h.lbz.get (j + m + 1)
      rcases Nat.lt_or_ge d Ba with h5 | h5
      · exact h5
      · exfalso
        have h6 : Ba * vs[m + 1]?.getD 0 ≤ d * vs[m + 1]?.getD 0 := Nat.mul_le_mul_right _ h5
        have h7 : zs[j + m + 2]?.getD 0 * Ba ≤ vs[m + 1]?.getD 0 * Ba := Nat.mul_le_mul_right _ h3
        rw [Nat.mul_comm Ba] at h6
        omega
  have ht : d * vs[m]?.getD 0 ≤ rest * Ba + zs[j + m]?.getD 0 := by
    rcases hd with h1 | h1
    · exact h1.2
    · have h2 := h.lbv.get m
      have h3 : d * vs[m]?.getD 0 ≤ Ba * Ba := Nat.mul_le_mul (Nat.le_of_lt hdlt) (Nat.le_of_lt h2)
      have h4 : Ba * Ba ≤ rest * Ba := Nat.mul_le_mul_right _ h1
      omega
  refine ⟨hdlt, kn_quot h.Vpos k.ge ?_⟩
  exact kn_le (P := Ba ^ m) (lowV := val (vs.take m)) (lowU := val ((zs.drop j).take m)) (top := zs[j + m + 2]?.getD 0 * Ba + zs[j + m + 1]?.getD 0) (v1 := vs[m + 1]?.getD 0) (v2 := vs[m]?.getD 0) (u0 := zs[j + m]?.getD 0) (by omega) hdlt h.V h.low h.U k.eq ht
/-- the end without a borrow, with one -/
theorem Kn.done (h : Kn zs vs j m) {d : Nat} {ys : List Nat} (hd : d = val (zs.drop j) / val vs ∨ d = val (zs.drop j) / val vs + 1) (hy : val ys + Ba ^ j * (d * val vs) = val zs) :
    d = val (zs.drop j) / val vs := by
  refine kn_exact h.Vpos hd ?_
  have h1 := h.split
  have h2 := val_take_lt h.lbz j
  rcases Nat.lt_or_ge (val (zs.drop j)) (d * val vs) with h3 | h3
  · exfalso
    have h4 : Ba ^ j * (val (zs.drop j) + 1) ≤ Ba ^ j * (d * val vs) := Nat.mul_le_mul_left _ h3
    rw [Nat.mul_add, Nat.mul_one] at h4
    omega
  · exact h3
theorem Kn.less (h : Kn zs vs j m) {ys : List Nat} (hy : val ys + Ba ^ j * (val (zs.drop j) / val vs * val vs) = val zs) : val ys < val vs * Ba ^ j := by
  have h1 := h.split
  have h2 := val_take_lt h.lbz j
  have h3 := Nat.mod_add_div (val (zs.drop j)) (val vs)
  have h4 := Nat.mod_lt (val (zs.drop j)) h.Vpos
  generalize val (zs.drop j) / val vs = q at *
  generalize val (zs.drop j) % val vs = r at *
  have h5 : Ba ^ j * val (zs.drop j) = Ba ^ j * r + Ba ^ j * (q * val vs) := by rw [← h3]; grind
  have h6 : Ba ^ j * (r + 1) ≤ Ba ^ j * val vs := Nat.mul_le_mul_left _ h4
  rw [Nat.mul_add, Nat.mul_one] at h6
  rw [Nat.mul_comm (val vs)]
  omega
theorem Kn.borrowed (h : Kn zs vs j m) {d : Nat} {ys : List Nat} (hd : d = val (zs.drop j) / val vs ∨ d = val (zs.drop j) / val vs + 1) (hl : val ys < Ba ^ (j + m + 2 + 1)) (hy : val ys + Ba ^ j * (d * val vs) = val zs + Ba ^ (j + m + 2 + 1)) :
    d = val (zs.drop j) / val vs + 1 := by
  refine kn_back hd ?_
  have h1 := h.split
  rcases Nat.lt_or_ge (val (zs.drop j)) (d * val vs) with h3 | h3
  · exact h3
  · exfalso
    have h4 : Ba ^ j * (d * val vs) ≤ Ba ^ j * val (zs.drop j) := Nat.mul_le_mul_left _ h3
    omega
/-- adding back: the sum with the carry out of the top limb struck is the remainder -/
theorem Kn.back (h : Kn zs vs j m) {q : Nat} {ys xs : List Nat} {c : Nat} (hq : q = val (zs.drop j) / val vs) (hy : val ys + Ba ^ j * ((q + 1) * val vs) = val zs + Ba ^ (j + m + 2 + 1)) (hx : val xs + Ba ^ (j + m + 2 + 1) * c = val ys + Ba ^ j * val vs) (hl : val xs < Ba ^ (j + m + 2 + 1)) (hz : val zs < Ba ^ (j + m + 2 + 1)) :
    val xs + Ba ^ j * (q * val vs) = val zs := by
  have e : Ba ^ j * ((q + 1) * val vs) = Ba ^ j * (q * val vs) + Ba ^ j * val vs := by grind
  have hle : Ba ^ j * (q * val vs) ≤ val zs := by
    have h1 := h.split
    have h2 : q * val vs ≤ val (zs.drop j) := by rw [hq]; exact Nat.div_mul_le_self _ _
    have h3 : Ba ^ j * (q * val vs) ≤ Ba ^ j * val (zs.drop j) := Nat.mul_le_mul_left _ h2
    omega
  have h1 : c = 1 := by
    rcases Nat.lt_trichotomy c 1 with h2 | h2 | h2
    · have : c = 0 := by omega
      subst this; rw [Nat.mul_zero] at hx; omega
    · exact h2
    · have : Ba ^ (j + m + 2 + 1) * 2 ≤ Ba ^ (j + m + 2 + 1) * c := Nat.mul_le_mul_left _ h2
      omega
  subst h1
  omega
end

/-- a limb of a number shifted to the right by s bits -/
theorem shr_limb (A i s : Nat) (hs : s ≤ 32) : A / 2 ^ s / Ba ^ i % Ba = (A / Ba ^ i % (Ba * Ba)) / 2 ^ s % Ba := by
  have e1 : A / 2 ^ s / Ba ^ i = A / Ba ^ i / 2 ^ s := by rw [Nat.div_div_eq_div_mul, Nat.div_div_eq_div_mul, Nat.mul_comm]
  rw [e1]
  generalize A / Ba ^ i = X
  have hp : 2 ^ s * 2 ^ (32 - s) = Ba := by rw [← Nat.pow_add, show s + (32 - s) = 32 by omega]; rfl
  have hm := Nat.mod_add_div X (Ba * Ba)
  generalize X % (Ba * Ba) = r at *
  generalize X / (Ba * Ba) = t at *
  rw [← hm]
  have e2 : r + Ba * Ba * t = r + 2 ^ s * (2 ^ (32 - s) * t * Ba) := by
    rw [show Ba * Ba * t = (2 ^ s * 2 ^ (32 - s)) * Ba * t by rw [hp]]
    grind
  rw [e2, Nat.add_mul_div_left _ _ (Nat.pow_pos (by omega)), Nat.add_mul_mod_self_right]
theorem val_div (xs : List Nat) (h : Lb xs) (i : Nat) (hi : i ≤ xs.length) : val xs / Ba ^ i = val (xs.drop i) := by
  rw [val_take_add_drop xs i hi, Nat.add_mul_div_left _ _ (Nat.pow_pos Ba_pos), Nat.div_eq_of_lt (val_take_lt h i), Nat.zero_add]
/-- a round of the shift to the right -/
theorem shr_step {xs zs : List Nat} {i s : Nat} (hx : Lb xs) (hi : i < zs.length) (hix : i < xs.length) (h0 : ∀ k, i ≤ k → zs[k]?.getD 0 = 0) (hs : s ≤ 32)
    (h : val zs = val xs / 2 ^ s % Ba ^ i) :
    val (zs.set i ((xs[i]?.getD 0 + Ba * xs[i + 1]?.getD 0) / 2 ^ s % Ba)) = val xs / 2 ^ s % Ba ^ (i + 1) := by
  have e := val_set ((xs[i]?.getD 0 + Ba * xs[i + 1]?.getD 0) / 2 ^ s % Ba) hi
  rw [h0 i (Nat.le_refl _), Nat.mul_zero, Nat.add_zero, h] at e
  rw [e, Nat.pow_succ, Nat.mod_mul, shr_limb _ _ _ hs, val_div xs hx i (by omega), val_drop hix]
  have hx1 := hx.get i
  have hx2 := hx.get (i + 1)
  have e3 : (xs[i]?.getD 0 + Ba * val (xs.drop (i + 1))) % (Ba * Ba) = xs[i]?.getD 0 + Ba * xs[i + 1]?.getD 0 := by
    rcases Nat.lt_or_ge (i + 1) xs.length with h1 | h1
    · rw [val_drop h1]
      generalize xs[i]?.getD 0 = a at *
      generalize xs[i + 1]?.getD 0 = b at *
      generalize val (xs.drop (i + 1 + 1)) = t
      have e4 : a + Ba * (b + Ba * t) = (a + Ba * b) + Ba * Ba * t := by grind
      rw [e4, Nat.add_mul_mod_self_left]
      apply Nat.mod_eq_of_lt
      have : Ba * (b + 1) ≤ Ba * Ba := Nat.mul_le_mul_left _ hx2
      rw [Nat.mul_add] at this
      omega
    · rw [List.drop_of_length_le h1, List.getElem?_eq_none h1]
      simp only [val, Nat.mul_zero, Nat.add_zero, Option.getD_none]
      apply Nat.mod_eq_of_lt
      have : Ba ≤ Ba * Ba := by decide
      omega
  rw [e3]
end Gm

/- The extended Euclidean algorithm: what its rounds keep, and what holds at its end. Plain arithmetic. -/

def Opp (x z : Int) : Prop := (0 ≤ x ∧ z ≤ 0) ∨ (x ≤ 0 ∧ 0 ≤ z)
structure Ex (A B M N : Nat) (x z : Int) : Prop where
  g : Nat.gcd M N = Nat.gcd A B
  xb : x.natAbs ≤ 1 ∨ x.natAbs ≤ B
  zb : z.natAbs ≤ B
  m0 : 0 < A → 0 < M
  mb : M ≤ A ∨ M ≤ B
  nb : N ≤ B
  ex : ∃ y t : Int, (A : Int) * x + B * y = M ∧ (A : Int) * z + B * t = N ∧ Opp x z ∧ Opp y t ∧ M * z.natAbs + N * x.natAbs = B ∧ M * t.natAbs + N * y.natAbs = A ∧ (N = 0 → 0 < A → 0 < B → x.natAbs * M ≤ B ∧ y.natAbs * M ≤ A)
theorem Ex.start (A B : Nat) : Ex A B A B 1 0 :=
  ⟨rfl, .inl (by decide), Nat.zero_le _, id, .inl (Nat.le_refl _), Nat.le_refl _, 0, 1, by omega, by omega, .inl (by omega), .inr (by omega), by simp, by simp, fun h1 _ h2 => absurd h1 (by omega)⟩
theorem opp_step {x z : Int} (h : Opp x z) (q : Nat) : Opp z (x - q * z) ∧ (x - q * z).natAbs = x.natAbs + q * z.natAbs := by
  have hw : ((q : Int) * z).natAbs = q * z.natAbs := by rw [Int.natAbs_mul, Int.natAbs_natCast]
  have h1 : 0 ≤ z → 0 ≤ (q : Int) * z := fun hz => Int.mul_nonneg (Int.natCast_nonneg q) hz
  have h2 : z ≤ 0 → (q : Int) * z ≤ 0 := fun hz => by
    have := Int.mul_nonneg (Int.natCast_nonneg q) (show 0 ≤ -z by omega)
    rw [Int.mul_neg] at this
    omega
  rw [← hw]
  generalize (q : Int) * z = v at h1 h2 ⊢
  unfold Opp at h ⊢
  omega
theorem Ex.step {A B M N : Nat} {x z : Int} (h : Ex A B M N x z) (hN : 0 < N) : Ex A B N (M % N) z (x - ((M / N : Nat) : Int) * z) := by
  obtain ⟨y, t, e1, e2, o1, o2, e3, e4, _⟩ := h.ex
  have hqr := Nat.div_add_mod M N
  have hr := Nat.mod_lt M hN
  have hm0 := h.m0
  have hg : Nat.gcd N (M % N) = Nat.gcd A B := by rw [← h.g, Nat.gcd_comm M N, Nat.gcd_rec N M, Nat.gcd_comm]
  have hdv : M % N = 0 → 0 < M → N ≤ M := fun h1 h2 => Nat.le_of_dvd h2 (Nat.dvd_of_mod_eq_zero h1)
  have hzb := h.zb
  have hnb := h.nb
  clear h
  generalize M / N = q at hqr ⊢
  generalize M % N = r at hqr hg hr hdv ⊢
  obtain ⟨o3, n3⟩ := opp_step o1 q
  obtain ⟨o4, n4⟩ := opp_step o2 q
  have k3 : N * (x - (q : Int) * z).natAbs + r * z.natAbs = B := by
    rw [n3, ← e3, ← hqr]
    simp only [Nat.mul_add, Nat.add_mul, Nat.mul_assoc]
    omega
  have k4 : N * (y - (q : Int) * t).natAbs + r * t.natAbs = A := by
    rw [n4, ← e4, ← hqr]
    simp only [Nat.mul_add, Nat.add_mul, Nat.mul_assoc]
    omega
  have k2 : (A : Int) * (x - (q : Int) * z) + B * (y - (q : Int) * t) = r := by
    have j1 : (A : Int) * ((q : Int) * z) + B * ((q : Int) * t) = N * q := by
      rw [Int.mul_comm (N : Int), ← e2, Int.mul_add, Int.mul_left_comm (A : Int) q z, Int.mul_left_comm (B : Int) q t]
    have j2 : (N : Int) * q + r = M := by rw [← hqr, Int.natCast_add, Int.natCast_mul]
    rw [Int.mul_sub, Int.mul_sub]
    omega
  refine ⟨hg, .inr hzb, ?_, fun _ => hN, .inr hnb, by omega, t, _, e2, k2, o3, o4, k3, k4, fun h1 h2 h3 => ?_⟩
  · exact Nat.le_trans (Nat.le_mul_of_pos_left _ hN) (by omega)
  · have hle := hdv h1 (hm0 h2)
    constructor
    · have := Nat.mul_le_mul_left z.natAbs hle
      rw [Nat.mul_comm z.natAbs M] at this
      omega
    · have := Nat.mul_le_mul_left t.natAbs hle
      rw [Nat.mul_comm t.natAbs M] at this
      omega
/-- the greatest common divisor and its coefficients -/
structure Bz (a b g x y : Int) : Prop where
  gg : ((Nat.gcd a.natAbs b.natAbs : Nat) : Int) = g
  e : a * x + b * y = g
  b0 : b = 0 → y = 0 ∧ x.natAbs ≤ 1
  a0 : b ≠ 0 → a = 0 → x = 0 ∧ y.natAbs = 1
  bd : a ≠ 0 → b ≠ 0 → x.natAbs * g.natAbs ≤ b.natAbs ∧ y.natAbs * g.natAbs ≤ a.natAbs
theorem Ex.fin {a b : Int} {M : Nat} {x z : Int} (h : Ex a.natAbs b.natAbs M 0 x z) (u v : Int) (hu : (a = 0 ∧ u = 0) ∨ (a < 0 ∧ u = -x) ∨ (0 < a ∧ u = x)) (hv : (b = 0 ∧ v = 0) ∨ (b ≠ 0 ∧ ((M : Int) - ((a.natAbs : Nat) : Int) * x) / b = v)) : Bz a b M u v := by
  obtain ⟨y, t, e1, _, _, _, _, _, hbd⟩ := h.ex
  have hg : M = Nat.gcd a.natAbs b.natAbs := by rw [← h.g, Nat.gcd_zero_right]
  have hxb := h.xb
  have hau : a * u = ((a.natAbs : Nat) : Int) * x := by
    rcases hu with ⟨rfl, rfl⟩ | ⟨h1, rfl⟩ | ⟨h1, rfl⟩
    · simp
    · rw [show ((a.natAbs : Nat) : Int) = -a by omega, Int.neg_mul, Int.mul_neg]
    · rw [show ((a.natAbs : Nat) : Int) = a by omega]
  have hun : a ≠ 0 → u.natAbs = x.natAbs := fun h0 => by omega
  have hbv : b ≠ 0 → b * v = ((b.natAbs : Nat) : Int) * y ∧ v.natAbs = y.natAbs := fun h0 => by
    obtain ⟨h1, _⟩ | ⟨_, hv⟩ := hv
    · exact absurd h1 h0
    · have e2 : (M : Int) - ((a.natAbs : Nat) : Int) * x = ((b.natAbs : Nat) : Int) * y := by omega
      rw [e2] at hv
      rcases Int.lt_or_gt_of_ne h0 with hn | hp
      · have e3 : ((b.natAbs : Nat) : Int) = -b := by omega
        rw [e3, show -b * y = b * -y by rw [Int.neg_mul, Int.mul_neg], Int.mul_ediv_cancel_left _ h0] at hv
        subst hv
        rw [e3, Int.neg_mul, Int.mul_neg]
        exact ⟨rfl, by omega⟩
      · have e3 : ((b.natAbs : Nat) : Int) = b := by omega
        rw [e3, Int.mul_ediv_cancel_left _ h0] at hv
        subst hv
        rw [e3]
        exact ⟨rfl, rfl⟩
  refine ⟨by rw [hg], ?_, ?_, ?_, ?_⟩
  · by_cases h0 : b = 0
    · subst h0
      rw [hau, Int.zero_mul, Int.add_zero, ← e1]
      simp
    · rw [hau, (hbv h0).1]; exact e1
  · intro h0
    subst h0
    refine ⟨by omega, ?_⟩
    simp at hxb
    omega
  · intro h0 h1
    subst h1
    refine ⟨by omega, ?_⟩
    rw [(hbv h0).2]
    have hM : M = b.natAbs := by rw [hg]; simp
    have hB : 0 < b.natAbs := by omega
    have e3 : ((b.natAbs : Nat) : Int) * y = ((b.natAbs : Nat) : Int) * 1 := by
      simp at e1
      rw [hM] at e1
      omega
    have := Int.eq_of_mul_eq_mul_left (show ((b.natAbs : Nat) : Int) ≠ 0 by omega) e3
    omega
  · intro h0 h1
    obtain ⟨k1, k2⟩ := hbd rfl (by omega) (by omega)
    rw [hun h0, (hbv h1).2, Int.natAbs_natCast]
    exact ⟨k1, k2⟩

end Go.Proofs.Ytdcofnjekdkifaa
