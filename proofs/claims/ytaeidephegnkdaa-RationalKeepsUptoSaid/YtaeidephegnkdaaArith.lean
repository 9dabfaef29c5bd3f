/- Plain arithmetic of the loops over limbs: sums, differences, products, comparison, the digits of the long division, the steps of the greatest common divisor. No program in sight. -/
import Derived.Test.YtaeidephegnkdaaNum
namespace Gm

theorem val_set {zs : List Nat} {k : Nat} (v : Nat) (hk : k < zs.length) : val (zs.set k v) + Ba ^ k * zs[k]?.getD 0 = val zs + Ba ^ k * v := by
  induction zs generalizing k with
  | nil => simp at hk
  | cons z zs ih =>
    cases k with
    | zero => simp [val]; omega
    | succ k =>
      have h := ih (k := k) (by simpa using hk)
      simp only [List.set_cons_succ, val, List.getElem?_cons_succ, Nat.pow_succ]
      grind

theorem get_set_ne {zs : List Nat} {k i : Nat} (v : Nat) (h : k ≠ i) : (zs.set k v)[i]?.getD 0 = zs[i]?.getD 0 := by
  rw [List.getElem?_set_ne h]
theorem get_set_eq {zs : List Nat} {k : Nat} (v : Nat) (h : k < zs.length) : (zs.set k v)[k]?.getD 0 = v := by
  rw [List.getElem?_set_self h]; rfl

/-- a round of the addition -/
theorem add_step {xs ys zs : List Nat} {i c : Nat} (hi : i < zs.length) (h0 : ∀ k, i ≤ k → zs[k]?.getD 0 = 0)
    (h : val zs + Ba ^ i * c = val (xs.take i) + val (ys.take i)) :
    val (zs.set i ((c + xs[i]?.getD 0 + ys[i]?.getD 0) % Ba)) + Ba ^ (i + 1) * ((c + xs[i]?.getD 0 + ys[i]?.getD 0) / Ba) = val (xs.take (i + 1)) + val (ys.take (i + 1)) := by
  have e := val_set ((c + xs[i]?.getD 0 + ys[i]?.getD 0) % Ba) hi
  rw [h0 i (Nat.le_refl _)] at e
  rw [val_take_succ', val_take_succ', Nat.pow_succ]
  have hm := Nat.mod_add_div (c + xs[i]?.getD 0 + ys[i]?.getD 0) Ba
  generalize (c + xs[i]?.getD 0 + ys[i]?.getD 0) % Ba = r at *
  generalize (c + xs[i]?.getD 0 + ys[i]?.getD 0) / Ba = q at *
  grind

theorem zeros_step {zs : List Nat} {i v : Nat} (h0 : ∀ k, i ≤ k → zs[k]?.getD 0 = 0) : ∀ k, i + 1 ≤ k → (zs.set i v)[k]?.getD 0 = 0 := by
  intro k hk
  rw [get_set_ne v (by omega)]
  exact h0 k (by omega)

/-- a round of the subtraction: no borrow, borrow -/
theorem sub_step_no {xs ys zs : List Nat} {i c z : Nat} (hi : i < zs.length) (h0 : ∀ k, i ≤ k → zs[k]?.getD 0 = 0)
    (h : val zs + val (ys.take i) = val (xs.take i) + Ba ^ i * c) (hz : z + c + ys[i]?.getD 0 = xs[i]?.getD 0) :
    val (zs.set i z) + val (ys.take (i + 1)) = val (xs.take (i + 1)) + Ba ^ (i + 1) * 0 := by
  have e := val_set z hi
  rw [h0 i (Nat.le_refl _)] at e
  rw [val_take_succ', val_take_succ', ← hz]
  grind
theorem sub_step_yes {xs ys zs : List Nat} {i c z : Nat} (hi : i < zs.length) (h0 : ∀ k, i ≤ k → zs[k]?.getD 0 = 0)
    (h : val zs + val (ys.take i) = val (xs.take i) + Ba ^ i * c) (hz : z + c + ys[i]?.getD 0 = xs[i]?.getD 0 + Ba) :
    val (zs.set i z) + val (ys.take (i + 1)) = val (xs.take (i + 1)) + Ba ^ (i + 1) * 1 := by
  have e := val_set z hi
  rw [h0 i (Nat.le_refl _)] at e
  rw [val_take_succ', val_take_succ', Nat.pow_succ]
  grind
theorem sub_end {xs ys zs : List Nat} {c n : Nat} (hz : Lb zs) (hl : zs.length = n) (hx : val ys ≤ val xs) (h : val zs + val ys = val xs + Ba ^ n * c) : val zs = val xs - val ys := by
  have := val_lt hz
  rw [hl] at this
  rcases Nat.eq_zero_or_pos c with rfl | hc
  · omega
  · have : Ba ^ n * 1 ≤ Ba ^ n * c := Nat.mul_le_mul_left _ hc
    omega

/-- a round of the inner loop of the multiplication -/
theorem mul_step {ys zs : List Nat} {i j c x T : Nat} (hi : i + j < zs.length) (h : val zs + Ba ^ (i + j) * c = T + x * Ba ^ i * val (ys.take j)) :
    val (zs.set (i + j) ((c + x * ys[j]?.getD 0 + zs[i + j]?.getD 0) % Ba)) + Ba ^ (i + (j + 1)) * ((c + x * ys[j]?.getD 0 + zs[i + j]?.getD 0) / Ba) = T + x * Ba ^ i * val (ys.take (j + 1)) := by
  have e := val_set ((c + x * ys[j]?.getD 0 + zs[i + j]?.getD 0) % Ba) hi
  rw [val_take_succ', ← Nat.add_assoc, Nat.pow_succ]
  have hm := Nat.mod_add_div (c + x * ys[j]?.getD 0 + zs[i + j]?.getD 0) Ba
  generalize (c + x * ys[j]?.getD 0 + zs[i + j]?.getD 0) % Ba = r at *
  generalize (c + x * ys[j]?.getD 0 + zs[i + j]?.getD 0) / Ba = q at *
  rw [Nat.pow_add] at *
  grind
theorem mul_carry {c x y z : Nat} (hc : c < Ba) (hx : x < Ba) (hy : y < Ba) (hz : z < Ba) : c + x * y + z < Ba * Ba := by
  have : x * y ≤ (Ba - 1) * (Ba - 1) := Nat.mul_le_mul (by omega) (by omega)
  have e : (Ba - 1) * (Ba - 1) + 2 * (Ba - 1) + 1 = Ba * Ba := by decide
  omega
end Gm
namespace Gm

/-- -1, 0 or 1 -/
def cmpN (m n : Nat) : Int := if m < n then -1 else if n < m then 1 else 0
theorem cmpN_lt {m n : Nat} (h : m < n) : cmpN m n = -1 := by simp [cmpN, h]
theorem cmpN_gt {m n : Nat} (h : n < m) : cmpN m n = 1 := by have : ¬ m < n := by omega
                                                             simp [cmpN, h, this]
theorem cmpN_eq {m n : Nat} (h : m = n) : cmpN m n = 0 := by subst h; simp [cmpN]

theorem val_split {xs : List Nat} {i : Nat} (hi : i < xs.length) : val xs = val (xs.take i) + Ba ^ i * (xs[i]?.getD 0 + Ba * val (xs.drop (i + 1))) := by
  rw [← val_drop hi]; exact val_take_add_drop xs i (by omega)
theorem val_take_lt {xs : List Nat} (h : Lb xs) (i : Nat) : val (xs.take i) < Ba ^ i := by
  have h1 := val_lt (h.take i)
  have h2 : (xs.take i).length ≤ i := by simp; omega
  exact Nat.lt_of_lt_of_le h1 (Nat.pow_le_pow_right Ba_pos h2)

theorem cmp_lt {xs ys : List Nat} {i : Nat} (hx : Lb xs) (hi : i < xs.length) (hj : i < ys.length) (hd : val (xs.drop (i + 1)) = val (ys.drop (i + 1))) (h : xs[i]?.getD 0 < ys[i]?.getD 0) : val xs < val ys := by
  rw [val_split hi, val_split hj, hd]
  have h1 := val_take_lt hx i
  generalize xs[i]?.getD 0 = x at *
  generalize ys[i]?.getD 0 = y at *
  generalize Ba * val (ys.drop (i + 1)) = d
  have h2 : Ba ^ i * (x + d + 1) ≤ Ba ^ i * (y + d) := Nat.mul_le_mul_left _ (by omega)
  rw [Nat.mul_add, Nat.mul_one] at h2
  omega
theorem drop_eq_step {xs ys : List Nat} {i : Nat} (hi : i < xs.length) (hj : i < ys.length) (hd : val (xs.drop (i + 1)) = val (ys.drop (i + 1))) (h : xs[i]?.getD 0 = ys[i]?.getD 0) : val (xs.drop i) = val (ys.drop i) := by
  rw [val_drop hi, val_drop hj, hd, h]

theorem val_two (v : Nat) : val [v % Ba, v / Ba] = v := by
  simp only [val]
  have := Nat.mod_add_div v Ba
  omega
theorem Lb_two {v : Nat} (h : v < Ba * Ba) : Lb [v % Ba, v / Ba] :=
  Lb_cons (Nat.mod_lt _ Ba_pos) (Lb_cons (Nat.div_lt_of_lt_mul h) Lb_nil)
theorem limbs_two {n : Nat} : (limbs n).length ≤ 2 ↔ n < Ba * Ba := by
  constructor
  · intro h
    have h1 := val_lt (Lb_limbs n)
    rw [val_limbs] at h1
    have h2 : Ba ^ (limbs n).length ≤ Ba ^ 2 := Nat.pow_le_pow_right Ba_pos h
    have e : Ba ^ 2 = Ba * Ba := by decide
    omega
  · intro h
    exact limbs_length_lt (by have e : Ba ^ 2 = Ba * Ba := by decide
                              omega)
end Gm
namespace Gm

/-- the value of n + 2 limbs by their upper parts: U = top * P + low, low < P -/
theorem kn_ge {U V Q top v1 P lowV : Nat} (hV : V = v1 * P + lowV) (hU : U < (top + 1) * P) (hQ : Q * V ≤ U) : Q * v1 ≤ top := by
  rcases Nat.lt_or_ge top (Q * v1) with h | h
  · exfalso
    have h1 : (top + 1) * P ≤ Q * v1 * P := Nat.mul_le_mul_right P h
    have h2 : Q * v1 * P ≤ Q * V := by rw [hV, Nat.mul_assoc]; exact Nat.mul_le_mul_left _ (by omega)
    omega
  · exact h

/-- a digit that fails the test with three limbs is too large -/
theorem kn_too_large {U V Q top v1 v2 u0 P lowV rest : Nat} (hV : V = (v1 * Ba + v2) * P + lowV) (hU : U < (top * Ba + u0 + 1) * P) (hQ : Q * V ≤ U)
    (hd : Q * v1 + rest = top) : Q * v2 ≤ rest * Ba + u0 := by
  have h := kn_ge (top := top * Ba + u0) (v1 := v1 * Ba + v2) hV hU hQ
  subst hd
  have e : Q * (v1 * Ba + v2) = Q * v1 * Ba + Q * v2 := by grind
  have e2 : (Q * v1 + rest) * Ba = Q * v1 * Ba + rest * Ba := by grind
  omega

/-- a digit that passes the test with three limbs is at most 1 too large -/
theorem kn_le {U V d top v1 v2 u0 P lowV lowU rest : Nat} (hv1 : 0 < v1) (hd1 : d < Ba) (hV : V = (v1 * Ba + v2) * P + lowV) (hlow : lowV < P) (hU : U = (top * Ba + u0) * P + lowU)
    (hd : d * v1 + rest = top) (ht : d * v2 ≤ rest * Ba + u0) : d * V ≤ U + V := by
  have h1 : d * (v1 * Ba + v2) ≤ top * Ba + u0 := by
    subst hd
    have e : d * (v1 * Ba + v2) = d * v1 * Ba + d * v2 := by grind
    have e2 : (d * v1 + rest) * Ba = d * v1 * Ba + rest * Ba := by grind
    omega
  have h2 : d * (v1 * Ba + v2) * P ≤ (top * Ba + u0) * P := Nat.mul_le_mul_right _ h1
  have h3 : d * lowV ≤ Ba * P := Nat.mul_le_mul (by omega) (by omega)
  have h4 : Ba * P ≤ V := by
    rw [hV]
    have : Ba * P ≤ (v1 * Ba + v2) * P := Nat.mul_le_mul_right _ (by have := Nat.mul_le_mul_right Ba hv1; omega)
    omega
  have e3 : d * V = d * (v1 * Ba + v2) * P + d * lowV := by rw [hV, Nat.mul_add, Nat.mul_assoc]
  omega

/-- the quotient from its bounds -/
theorem kn_quot {U V d : Nat} (hV : 0 < V) (hge : U / V ≤ d) (hle : d * V ≤ U + V) : d = U / V ∨ d = U / V + 1 := by
  have h1 := Nat.div_add_mod U V
  have h2 := Nat.mod_lt U hV
  rcases Nat.lt_or_ge (U / V + 1) d with h | h
  · exfalso
    have h3 : (U / V + 2) * V ≤ d * V := Nat.mul_le_mul_right _ h
    have e : (U / V + 2) * V = V * (U / V) + 2 * V := by grind
    omega
  · omega
theorem kn_exact {U V d : Nat} (hV : 0 < V) (hd : d = U / V ∨ d = U / V + 1) (hle : d * V ≤ U) : d = U / V := by
  rcases hd with h | h
  · exact h
  · exfalso
    have h1 := Nat.div_add_mod U V
    have h2 := Nat.mod_lt U hV
    rw [h] at hle
    have e : (U / V + 1) * V = V * (U / V) + V := by grind
    omega
theorem kn_back {U V d : Nat} (hd : d = U / V ∨ d = U / V + 1) (hgt : U < d * V) : d = U / V + 1 := by
  rcases hd with h | h
  · exfalso
    have h1 := Nat.div_mul_le_self U V
    rw [h] at hgt
    omega
  · exact h
theorem div_lt_of {U V : Nat} (h : U < V * Ba) : U / V < Ba := Nat.div_lt_of_lt_mul h
end Gm
namespace Gm

/-- what the simulation of Euclid's algorithm on the leading bits keeps -/
structure LI (X Y x y u0 u1 u2 v0 v1 v2 : Nat) (even : Bool) : Prop where
  le : y ≤ x
  hv : x * v2 + y * v1 = X
  hu : x * u2 + y * u1 = Y
  v2pos : 1 ≤ v2
  u2v2 : u2 ≤ v2
  first : (v1 = 0 ∧ u1 = 1 ∧ u2 = 0 ∧ v2 = 1) ∨ (1 ≤ v1 ∧ u1 ≤ v1)
  par : if even then (x + u1 * X = v1 * Y ∧ y + v2 * Y = u2 * X ∧ u2 * v1 = u1 * v2 + 1) else (x + v1 * Y = u1 * X ∧ y + u2 * X = v2 * Y ∧ u1 * v2 = u2 * v1 + 1)
  last : v0 = 0 ∨ (∃ xp, (if even then (xp + v0 * Y = u0 * X ∧ u0 * v1 = u1 * v0 + 1) else (xp + u0 * X = v0 * Y ∧ u1 * v0 = u0 * v1 + 1)) ∧ v1 ≤ x ∧ x + (v0 + v1) ≤ xp ∧ 1 ≤ v1 ∧ u0 ≤ v0 ∧ u1 ≤ v1)

theorem LI.start {X Y : Nat} (h : Y ≤ X) : LI X Y X Y 0 1 0 0 0 1 false where
  le := h
  hv := by simp
  hu := by simp
  v2pos := by simp
  u2v2 := by simp
  first := .inl ⟨rfl, rfl, rfl, rfl⟩
  par := by simp
  last := .inl rfl

theorem LI.step {X Y x y u0 u1 u2 v0 v1 v2 : Nat} {even : Bool} (h : LI X Y x y u0 u1 u2 v0 v1 v2 even) (hy : v2 ≤ y) (hxy : v1 + v2 ≤ x - y) :
    LI X Y y (x % y) u1 u2 (u1 + x / y * u2) v1 v2 (v1 + x / y * v2) (!even) := by
  have ypos : 0 < y := by have := h.v2pos; omega
  have hq : 1 ≤ x / y := Nat.div_pos h.le ypos
  have hm := Nat.mod_add_div x y
  have hlt := Nat.mod_lt x ypos
  have hle := h.le
  have hpar := h.par
  have hv := h.hv
  have hu := h.hu
  have hv2 := h.v2pos
  have huv := h.u2v2
  have hf := h.first
  generalize x / y = q at *
  generalize x % y = r at *
  refine ⟨by omega, by rw [← hm] at hv; grind, by rw [← hm] at hu; grind, ?_, ?_, .inr ⟨hv2, huv⟩, ?_, ?_⟩
  · have : 1 * 1 ≤ q * v2 := Nat.mul_le_mul hq hv2
    omega
  · rcases hf with ⟨h1, h2, h3, h4⟩ | ⟨_, h2⟩
    · subst h1 h2 h3 h4; omega
    · have : q * u2 ≤ q * v2 := Nat.mul_le_mul_left _ huv
      omega
  · cases even
    · simp only [Bool.false_eq_true, if_false, Bool.not_false, if_true] at hpar ⊢
      obtain ⟨p1, p2, p3⟩ := hpar
      refine ⟨by omega, ?_, ?_⟩
      · rw [← hm] at p1; grind
      · grind
    · simp only [Bool.not_true, Bool.false_eq_true, if_false, if_true] at hpar ⊢
      obtain ⟨p1, p2, p3⟩ := hpar
      refine ⟨by omega, ?_, ?_⟩
      · rw [← hm] at p1; grind
      · grind
  · rcases hf with ⟨h1, _⟩ | ⟨h1, h2⟩
    · exact .inl h1
    · refine .inr ⟨x, ?_, hy, by omega, hv2, h2, huv⟩
      cases even
      · simp only [Bool.false_eq_true, if_false, Bool.not_false, if_true] at hpar ⊢
        exact ⟨hpar.1, hpar.2.2⟩
      · simp only [Bool.not_true, Bool.false_eq_true, if_false, if_true] at hpar ⊢
        exact ⟨hpar.1, hpar.2.2⟩

/-- the bounds by which nothing wraps in a round -/
theorem LI.bounds {X Y x y u0 u1 u2 v0 v1 v2 : Nat} {even : Bool} (h : LI X Y x y u0 u1 u2 v0 v1 v2 even) (hy : v2 ≤ y) :
    0 < y ∧ x ≤ X ∧ v1 + v2 ≤ X ∧ v1 + x / y * v2 ≤ X ∧ u1 + x / y * u2 ≤ Y + 1 := by
  have ypos : 0 < y := by have := h.v2pos; omega
  have hle := h.le
  have hv := h.hv
  have hu := h.hu
  have hm := Nat.mod_add_div x y
  have hv2 := h.v2pos
  generalize x / y = q at *
  generalize x % y = r at *
  have h1 : x * 1 ≤ x * v2 := Nat.mul_le_mul_left _ hv2
  have h2 : 1 * v2 ≤ x * v2 := Nat.mul_le_mul_right _ (by omega)
  have h3 : 1 * v1 ≤ y * v1 := Nat.mul_le_mul_right _ ypos
  have e1 : y * (v1 + q * v2) + r * v2 = X := by rw [← hm] at hv; grind
  have h4 : 1 * (v1 + q * v2) ≤ y * (v1 + q * v2) := Nat.mul_le_mul_right _ ypos
  have e2 : y * (u1 + q * u2) + r * u2 = Y := by rw [← hm] at hu; grind
  have h5 : 1 * (u1 + q * u2) ≤ y * (u1 + q * u2) := Nat.mul_le_mul_right _ ypos
  exact ⟨ypos, by omega, by omega, by omega, by omega⟩

theorem gcd_of_combination {A B a b p q r s : Nat} (h1 : A = p * a + q * b) (h2 : B = r * a + s * b) {p' q' r' s' : Nat} (h3 : a + q' * B = p' * A) (h4 : b + r' * A = s' * B) : Nat.gcd a b = Nat.gcd A B := by
  apply Nat.dvd_antisymm
  · apply Nat.dvd_gcd
    · rw [h1]; exact Nat.dvd_add (Nat.dvd_mul_left_of_dvd (Nat.gcd_dvd_left _ _) _) (Nat.dvd_mul_left_of_dvd (Nat.gcd_dvd_right _ _) _)
    · rw [h2]; exact Nat.dvd_add (Nat.dvd_mul_left_of_dvd (Nat.gcd_dvd_left _ _) _) (Nat.dvd_mul_left_of_dvd (Nat.gcd_dvd_right _ _) _)
  · apply Nat.dvd_gcd
    · have e : Nat.gcd A B ∣ a + q' * B := by rw [h3]; exact Nat.dvd_mul_left_of_dvd (Nat.gcd_dvd_left _ _) _
      exact (Nat.dvd_add_left (Nat.dvd_mul_left_of_dvd (Nat.gcd_dvd_right A B) _)).1 e
    · have e : Nat.gcd A B ∣ b + r' * A := by rw [h4]; exact Nat.dvd_mul_left_of_dvd (Nat.gcd_dvd_right _ _) _
      exact (Nat.dvd_add_left (Nat.dvd_mul_left_of_dvd (Nat.gcd_dvd_left A B) _)).1 e

/-- the step with the cofactors of the leading bits, as the code takes it -/
theorem LI.finish {A B D x y u0 u1 u2 v0 v1 v2 : Nat} {even : Bool} (hD : 0 < D) (h : LI (A / D) (B / D) x y u0 u1 u2 v0 v1 v2 even) (h0 : v0 ≠ 0) {a b : Nat}
    (ha : a = if even then A * u0 - B * v0 else B * v0 - A * u0) (hb : b = if even then B * v1 - A * u1 else A * u1 - B * v1) :
    (if even then B * v0 ≤ A * u0 else A * u0 ≤ B * v0) ∧ (if even then A * u1 ≤ B * v1 else B * v1 ≤ A * u1) ∧ b ≤ a ∧ a + b ≤ A ∧ Nat.gcd a b = Nat.gcd A B := by
  rcases h.last with h1 | ⟨xp, hp, hx, hxp, hv1, hu0, hu1⟩
  · exact absurd h1 h0
  have hpar := h.par
  have eA := Nat.div_add_mod A D
  have eB := Nat.div_add_mod B D
  have lA := Nat.mod_lt A hD
  have lB := Nat.mod_lt B hD
  generalize A / D = X at *
  generalize B / D = Y at *
  generalize A % D = α at *
  generalize B % D = β at *
  have b1 : u1 * α ≤ v1 * D := Nat.mul_le_mul hu1 (by omega)
  have b2 : v1 * β ≤ v1 * D := Nat.mul_le_mul_left _ (by omega)
  have b3 : (u0 + u1) * α ≤ (v0 + v1) * D := Nat.mul_le_mul (by omega) (by omega)
  have b4 : (v0 + v1) * β ≤ (v0 + v1) * D := Nat.mul_le_mul_left _ (by omega)
  have b5 : v1 * D ≤ x * D := Nat.mul_le_mul_right _ hx
  have b6 : (x + (v0 + v1)) * D ≤ xp * D := Nat.mul_le_mul_right _ hxp
  have hv0 : 1 ≤ v0 := by omega
  cases even
  · simp only [Bool.false_eq_true, if_false] at *
    obtain ⟨p1, p2, p3⟩ := hpar
    obtain ⟨q1, q2⟩ := hp
    have f1 : A * u1 + v1 * β = B * v1 + x * D + u1 * α := by
      have : D * (x + v1 * Y) = D * (u1 * X) := by rw [p1]
      subst eA; subst eB; grind
    have f2 : B * v0 + u0 * α = A * u0 + xp * D + v0 * β := by
      have : D * (xp + u0 * X) = D * (v0 * Y) := by rw [q1]
      subst eA; subst eB; grind
    have g1 : B * v1 ≤ A * u1 := by omega
    have e6 : (x + (v0 + v1)) * D = x * D + (v0 + v1) * D := by grind
    have e7 : (u0 + u1) * α = u0 * α + u1 * α := by grind
    have e8 : (v0 + v1) * β = v0 * β + v1 * β := by grind
    have g2 : A * u0 ≤ B * v0 := by omega
    have g3 : b ≤ a := by omega
    have k1 : a + A * u0 = B * v0 := by omega
    have k2 : b + B * v1 = A * u1 := by omega
    have k3 : A = v1 * a + v0 * b := by grind
    have k4 : B = u1 * a + u0 * b := by grind
    refine ⟨g2, g1, g3, ?_, ?_⟩
    · have : 1 * a ≤ v1 * a := Nat.mul_le_mul_right _ hv1
      have : 1 * b ≤ v0 * b := Nat.mul_le_mul_right _ hv0
      omega
    · rw [Nat.gcd_comm A B]
      exact gcd_of_combination (p := u1) (q := u0) (r := v1) (s := v0) k4 k3 (q' := u0) (p' := v0) (r' := v1) (s' := u1) (by grind) (by grind)
  · simp only [if_true] at *
    obtain ⟨p1, p2, p3⟩ := hpar
    obtain ⟨q1, q2⟩ := hp
    have f1 : B * v1 + u1 * α = A * u1 + x * D + v1 * β := by
      have : D * (x + u1 * X) = D * (v1 * Y) := by rw [p1]
      subst eA; subst eB; grind
    have f2 : A * u0 + v0 * β = B * v0 + xp * D + u0 * α := by
      have : D * (xp + v0 * Y) = D * (u0 * X) := by rw [q1]
      subst eA; subst eB; grind
    have g1 : A * u1 ≤ B * v1 := by omega
    have e6 : (x + (v0 + v1)) * D = x * D + (v0 + v1) * D := by grind
    have e7 : (u0 + u1) * α = u0 * α + u1 * α := by grind
    have e8 : (v0 + v1) * β = v0 * β + v1 * β := by grind
    have g2 : B * v0 ≤ A * u0 := by omega
    have g3 : b ≤ a := by omega
    have k1 : a + B * v0 = A * u0 := by omega
    have k2 : b + A * u1 = B * v1 := by omega
    have k3 : A = v1 * a + v0 * b := by grind
    have k4 : B = u1 * a + u0 * b := by grind
    refine ⟨g2, g1, g3, ?_, ?_⟩
    · have : 1 * a ≤ v1 * a := Nat.mul_le_mul_right _ hv1
      have : 1 * b ≤ v0 * b := Nat.mul_le_mul_right _ hv0
      omega
    · exact gcd_of_combination (p := v1) (q := v0) (r := u1) (s := u0) k3 k4 (q' := v0) (p' := u0) (r' := u1) (s' := v1) (by grind) (by grind)
end Gm
