/- Plain arithmetic of lists of limbs in base 2^32: value, canonical list, cutting of zero limbs. No program in sight. -/
namespace Gm

def Ba : Nat := 4294967296

theorem Ba_eq : Ba = 4294967296 := rfl
theorem Ba_pos : 0 < Ba := by decide

/-- the value of a list of limbs, least limb first -/
def val : List Nat → Nat
  | [] => 0
  | x :: xs => x + Ba * val xs

/-- every limb is below 2^32 -/
def Lb (xs : List Nat) : Prop := ∀ x ∈ xs, x < Ba

/-- the canonical list of a number -/
def limbs (n : Nat) : List Nat := if n = 0 then [] else (n % Ba) :: limbs (n / Ba)
termination_by n
decreasing_by exact Nat.div_lt_self (by omega) (by decide)

theorem limbs_zero : limbs 0 = [] := by rw [limbs]; simp
theorem limbs_pos {n : Nat} (h : n ≠ 0) : limbs n = (n % Ba) :: limbs (n / Ba) := by rw [limbs]; simp [h]

theorem Lb_nil : Lb [] := by intro x hx; cases hx
theorem Lb_cons {x : Nat} {xs : List Nat} (h : x < Ba) (hs : Lb xs) : Lb (x :: xs) := by
  intro y hy
  rcases List.mem_cons.1 hy with rfl | hy
  · exact h
  · exact hs y hy
theorem Lb.head {x : Nat} {xs : List Nat} (h : Lb (x :: xs)) : x < Ba := h x (by simp)
theorem Lb.tail {x : Nat} {xs : List Nat} (h : Lb (x :: xs)) : Lb xs := fun y hy => h y (by simp [hy])
theorem Lb.append {xs ys : List Nat} (h : Lb xs) (k : Lb ys) : Lb (xs ++ ys) := by
  intro y hy
  rcases List.mem_append.1 hy with hy | hy
  · exact h y hy
  · exact k y hy
theorem Lb.take {xs : List Nat} (h : Lb xs) (n : Nat) : Lb (xs.take n) := fun y hy => h y (List.mem_of_mem_take hy)
theorem Lb.drop {xs : List Nat} (h : Lb xs) (n : Nat) : Lb (xs.drop n) := fun y hy => h y (List.mem_of_mem_drop hy)
theorem Lb.get {xs : List Nat} (h : Lb xs) (k : Nat) : xs[k]?.getD 0 < Ba := by
  rcases Nat.lt_or_ge k xs.length with hk | hk
  · rw [List.getElem?_eq_getElem hk]; exact h _ (List.getElem_mem hk)
  · rw [List.getElem?_eq_none hk]; exact Ba_pos
theorem Lb.set {xs : List Nat} (h : Lb xs) (k v : Nat) (hv : v < Ba) : Lb (xs.set k v) := by
  intro y hy
  rcases List.mem_or_eq_of_mem_set hy with hy | rfl
  · exact h y hy
  · exact hv
theorem Lb_replicate (n : Nat) : Lb (List.replicate n 0) := by
  intro y hy
  rw [(List.mem_replicate.1 hy).2]; exact Ba_pos

theorem val_nil : val [] = 0 := rfl
theorem val_cons (x : Nat) (xs : List Nat) : val (x :: xs) = x + Ba * val xs := rfl
theorem val_append (xs ys : List Nat) : val (xs ++ ys) = val xs + Ba ^ xs.length * val ys := by
  induction xs with
  | nil => simp [val]
  | cons x xs ih =>
    simp only [List.cons_append, val, ih, List.length_cons, Nat.pow_succ]
    rw [Nat.mul_add, Nat.add_assoc]
    congr 2
    rw [← Nat.mul_assoc, Nat.mul_comm Ba]
theorem val_snoc (xs : List Nat) (x : Nat) : val (xs ++ [x]) = val xs + Ba ^ xs.length * x := by
  rw [val_append]; simp [val]
theorem val_replicate (n : Nat) : val (List.replicate n 0) = 0 := by
  induction n with
  | zero => rfl
  | succ n ih => simp [List.replicate_succ, val, ih]
theorem val_append_zeros (xs : List Nat) (n : Nat) : val (xs ++ List.replicate n 0) = val xs := by
  rw [val_append, val_replicate]; simp
theorem val_lt {xs : List Nat} (h : Lb xs) : val xs < Ba ^ xs.length := by
  induction xs with
  | nil => simp [val]
  | cons x xs ih =>
    have h1 := ih h.tail
    have h2 := h.head
    simp only [val, List.length_cons, Nat.pow_succ]
    have h3 : val xs + 1 ≤ Ba ^ xs.length := h1
    have h4 : (val xs + 1) * Ba ≤ Ba ^ xs.length * Ba := Nat.mul_le_mul_right _ h3
    rw [Nat.add_mul, Nat.mul_comm (val xs) Ba] at h4
    omega

theorem Lb_limbs (n : Nat) : Lb (limbs n) := by
  induction n using Nat.strongRecOn with
  | ind n ih =>
    by_cases h : n = 0
    · subst h; rw [limbs_zero]; exact Lb_nil
    · rw [limbs_pos h]
      exact Lb_cons (Nat.mod_lt _ Ba_pos) (ih _ (Nat.div_lt_self (by omega) (by decide)))

theorem val_limbs (n : Nat) : val (limbs n) = n := by
  induction n using Nat.strongRecOn with
  | ind n ih =>
    by_cases h : n = 0
    · subst h; rw [limbs_zero]; rfl
    · rw [limbs_pos h, val, ih _ (Nat.div_lt_self (by omega) (by decide))]
      exact Nat.mod_add_div n Ba

theorem limbs_inj {m n : Nat} (h : limbs m = limbs n) : m = n := by
  rw [← val_limbs m, ← val_limbs n, h]

theorem limbs_eq_nil {n : Nat} : limbs n = [] ↔ n = 0 := by
  constructor
  · intro h; have := val_limbs n; rw [h] at this; exact this.symm
  · rintro rfl; exact limbs_zero

theorem limbs_val_cons {x : Nat} {xs : List Nat} (h : x < Ba) (hn : val (x :: xs) ≠ 0) : limbs (val (x :: xs)) = x :: limbs (val xs) := by
  rw [limbs_pos hn, val]
  congr 1
  · rw [Nat.add_mul_mod_self_left]; exact Nat.mod_eq_of_lt h
  · rw [Nat.add_mul_div_left _ _ Ba_pos, Nat.div_eq_of_lt h, Nat.zero_add]

/-- a list whose last limb is not 0 is canonical -/
theorem limbs_val_snoc {xs : List Nat} {x : Nat} (h : Lb xs) (hx : x < Ba) (h0 : x ≠ 0) : limbs (val (xs ++ [x])) = xs ++ [x] := by
  induction xs with
  | nil =>
    show limbs (val [x]) = [x]
    have hv : val [x] ≠ 0 := by simp only [val]; omega
    rw [limbs_val_cons hx hv]
    simp [val, limbs_zero]
  | cons y ys ih =>
    have hne : val (ys ++ [x]) ≠ 0 := by
      rw [val_snoc]
      have : 0 < Ba ^ ys.length * x := Nat.mul_pos (Nat.pow_pos Ba_pos) (by omega)
      omega
    have hv : val (y :: (ys ++ [x])) ≠ 0 := by
      simp only [val]
      have : 0 < Ba * val (ys ++ [x]) := Nat.mul_pos Ba_pos (by omega)
      omega
    show limbs (val (y :: (ys ++ [x]))) = y :: (ys ++ [x])
    rw [limbs_val_cons h.head hv, ih h.tail]

/-- the last limb of a canonical list is not 0 -/
theorem limbs_last {n : Nat} (h : n ≠ 0) : (limbs n)[(limbs n).length - 1]?.getD 0 ≠ 0 := by
  induction n using Nat.strongRecOn with
  | ind n ih =>
    rw [limbs_pos h]
    by_cases hq : n / Ba = 0
    · rw [hq, limbs_zero]
      have : n < Ba := by
        rcases Nat.lt_or_ge n Ba with h1 | h1
        · exact h1
        · have := Nat.div_pos h1 Ba_pos; omega
      simp [Nat.mod_eq_of_lt this, h]
    · have h1 := ih _ (Nat.div_lt_self (by omega) (by decide)) hq
      have hl : 0 < (limbs (n / Ba)).length := by
        rcases Nat.eq_zero_or_pos (limbs (n / Ba)).length with h2 | h2
        · exact absurd (limbs_eq_nil.1 (List.eq_nil_of_length_eq_zero h2)) hq
        · exact h2
      have e : (n % Ba :: limbs (n / Ba)).length - 1 = ((limbs (n / Ba)).length - 1) + 1 := by simp; omega
      rw [e, List.getElem?_cons_succ]
      exact h1

/-- cutting zero limbs at the end gives the canonical list: if the rest is 0 and the part before does not end in 0 -/
theorem take_canon {xs : List Nat} {n : Nat} (h : Lb xs) (hn : n ≤ xs.length) (h0 : val (xs.drop n) = 0) (hl : n = 0 ∨ xs[n - 1]?.getD 0 ≠ 0) :
    xs.take n = limbs (val xs) := by
  have hv : val xs = val (xs.take n) := by
    have e := val_append (xs.take n) (xs.drop n)
    rw [List.take_append_drop, h0] at e
    simpa using e
  rcases hl with rfl | hl
  · rw [hv]; simp [val, limbs_zero]
  · rcases Nat.eq_zero_or_pos n with rfl | hp
    · rw [hv]; simp [val, limbs_zero]
    · obtain ⟨m, rfl⟩ : ∃ m, n = m + 1 := ⟨n - 1, by omega⟩
      have hlt : m < xs.length := by omega
      have et : xs.take (m + 1) = xs.take m ++ [xs[m]] := List.take_succ_eq_append_getElem hlt
      have hx : xs[m] ≠ 0 := by simpa [List.getElem?_eq_getElem hlt] using hl
      rw [hv, et, limbs_val_snoc (h.take m) (h _ (List.getElem_mem hlt)) hx]

theorem val_drop_step {xs : List Nat} {n : Nat} (hn : n < xs.length) (h0 : val (xs.drop (n + 1)) = 0) (hx : xs[n]?.getD 0 = 0) : val (xs.drop n) = 0 := by
  rw [List.drop_eq_getElem_cons hn, val, h0]
  rw [List.getElem?_eq_getElem hn] at hx
  simp at hx
  rw [hx]; rfl

theorem limbs_length_le {xs : List Nat} (h : Lb xs) : (limbs (val xs)).length ≤ xs.length := by
  induction xs with
  | nil => simp [val, limbs_zero]
  | cons x xs ih =>
    by_cases hn : val (x :: xs) = 0
    · rw [hn, limbs_zero]; simp
    · rw [limbs_val_cons h.head hn]
      simpa using ih h.tail

/-- xs cut at the canonical length is the canonical list, and what was cut is zero -/
theorem take_limbs {xs : List Nat} (h : Lb xs) : xs.take (limbs (val xs)).length = limbs (val xs) := by
  induction xs with
  | nil => simp [val, limbs_zero]
  | cons x xs ih =>
    by_cases hn : val (x :: xs) = 0
    · rw [hn, limbs_zero]; simp
    · rw [limbs_val_cons h.head hn]
      simp [ih h.tail]

theorem limbs_get {xs : List Nat} (h : Lb xs) (k : Nat) : (limbs (val xs))[k]?.getD 0 = xs[k]?.getD 0 := by
  induction xs generalizing k with
  | nil => simp [val, limbs_zero]
  | cons x xs ih =>
    by_cases hn : val (x :: xs) = 0
    · rw [hn, limbs_zero]
      have h1 : x = 0 := by simp only [val] at hn; omega
      have h2 : val xs = 0 := by
        simp only [val] at hn
        rcases Nat.eq_zero_or_pos (val xs) with h2 | h2
        · exact h2
        · have := Nat.mul_pos Ba_pos h2; omega
      cases k with
      | zero => simp [h1]
      | succ k =>
        have := ih h.tail k
        rw [h2, limbs_zero] at this
        simpa using this
    · rw [limbs_val_cons h.head hn]
      cases k with
      | zero => rfl
      | succ k => simpa using ih h.tail k

/-- two lists of limbs with equal value have equal canonical lists: same value iff same list -/
theorem limbs_length_lt {n k : Nat} (h : n < Ba ^ k) : (limbs n).length ≤ k := by
  induction k generalizing n with
  | zero =>
    have : n = 0 := by simp at h; omega
    subst this; simp [limbs_zero]
  | succ k ih =>
    by_cases hn : n = 0
    · subst hn; simp [limbs_zero]
    · rw [limbs_pos hn]
      have : n / Ba < Ba ^ k := by
        apply Nat.div_lt_of_lt_mul
        rw [Nat.mul_comm, ← Nat.pow_succ]; exact h
      simpa using ih this

theorem limbs_length_ge {n k : Nat} (h : Ba ^ k ≤ n) : k < (limbs n).length := by
  have h1 := val_lt (Lb_limbs n)
  rw [val_limbs] at h1
  have h2 : Ba ^ k < Ba ^ (limbs n).length := by omega
  exact (Nat.pow_lt_pow_iff_right (by decide)).1 h2

theorem limbs_mono {m n : Nat} (h : m ≤ n) : (limbs m).length ≤ (limbs n).length := by
  have h1 := val_lt (Lb_limbs n)
  rw [val_limbs] at h1
  exact limbs_length_lt (by omega)

theorem limbs_lt_length {m n : Nat} (h : (limbs m).length < (limbs n).length) : m < n := by
  rcases Nat.lt_or_ge m n with h1 | h1
  · exact h1
  · have := limbs_mono h1; omega

theorem val_take_succ {xs : List Nat} {k : Nat} (hk : k < xs.length) : val (xs.take (k + 1)) = val (xs.take k) + Ba ^ k * xs[k]?.getD 0 := by
  rw [List.take_succ_eq_append_getElem hk, val_snoc, List.length_take, Nat.min_eq_left (by omega), List.getElem?_eq_getElem hk]; rfl

theorem val_take_succ' (xs : List Nat) (k : Nat) : val (xs.take (k + 1)) = val (xs.take k) + Ba ^ k * xs[k]?.getD 0 := by
  rcases Nat.lt_or_ge k xs.length with hk | hk
  · exact val_take_succ hk
  · rw [List.take_of_length_le (by omega), List.take_of_length_le (by omega), List.getElem?_eq_none hk]; simp

theorem val_take_add_drop (xs : List Nat) (k : Nat) (hk : k ≤ xs.length) : val xs = val (xs.take k) + Ba ^ k * val (xs.drop k) := by
  have e := val_append (xs.take k) (xs.drop k)
  rw [List.take_append_drop, List.length_take, Nat.min_eq_left hk] at e
  exact e

theorem val_drop {xs : List Nat} {k : Nat} (hk : k < xs.length) : val (xs.drop k) = xs[k]?.getD 0 + Ba * val (xs.drop (k + 1)) := by
  rw [List.drop_eq_getElem_cons hk, val, List.getElem?_eq_getElem hk]; rfl

end Gm
