/- Plain arithmetic: shifts, the digits of the long division in a row of limbs. No program in sight. -/
import Derived.Test.YtaeidephegnkdaaArith
namespace Gm

/-- limbs from m on are 0 exactly if the value is below Ba ^ m -/
theorem val_take_of_zero {zs : List Nat} {m : Nat} (h : ∀ k, m ≤ k → zs[k]?.getD 0 = 0) : val (zs.take m) = val zs := by
  induction zs generalizing m with
  | nil => simp
  | cons z zs ih =>
    cases m with
    | zero =>
      have h0 : z = 0 := by simpa using h 0 (Nat.le_refl _)
      have h1 := ih (m := 0) (fun k _ => by simpa using h (k + 1) (by omega))
      simp only [List.take_zero, val] at h1 ⊢
      rw [← h1, h0]; rfl
    | succ m =>
      have h1 := ih (m := m) (fun k hk => by simpa using h (k + 1) (by omega))
      simp only [List.take_succ_cons, val, h1]
theorem zero_of_val {zs : List Nat} {m : Nat} (h : val zs < Ba ^ m) : ∀ k, m ≤ k → zs[k]?.getD 0 = 0 := by
  induction zs generalizing m with
  | nil => intro k _; simp
  | cons z zs ih =>
    intro k hk
    cases m with
    | zero =>
      have h0 : val (z :: zs) = 0 := by simpa using h
      simp only [val] at h0
      have hz : z = 0 := by omega
      have hv : val zs = 0 := by
        rcases Nat.eq_zero_or_pos (val zs) with h1 | h1
        · exact h1
        · have := Nat.mul_pos Ba_pos h1; omega
      cases k with
      | zero => simpa using hz
      | succ k => simpa using ih (m := 0) (by rw [hv]; simp) k (Nat.zero_le _)
    | succ m =>
      cases k with
      | zero => omega
      | succ k =>
        have h1 : val zs < Ba ^ m := by
          simp only [val, Nat.pow_succ] at h
          rcases Nat.lt_or_ge (val zs) (Ba ^ m) with h2 | h2
          · exact h2
          · have h3 : Ba ^ m * Ba ≤ val zs * Ba := Nat.mul_le_mul_right _ h2
            rw [Nat.mul_comm (val zs)] at h3
            omega
        simpa using ih h1 k (by omega)
theorem val_lt_of_zero {zs : List Nat} {m : Nat} (hz : Lb zs) (h : ∀ k, m ≤ k → zs[k]?.getD 0 = 0) : val zs < Ba ^ m := by
  rw [← val_take_of_zero h]; exact val_take_lt hz m

/-- a round of a shift to the left by s bits -/
theorem shl_step {xs zs : List Nat} {i c s : Nat} (hi : i < zs.length) (h0 : ∀ k, i ≤ k → zs[k]?.getD 0 = 0)
    (h : val zs + Ba ^ i * c = val (xs.take i) * 2 ^ s) :
    val (zs.set i ((c + xs[i]?.getD 0 * 2 ^ s) % Ba)) + Ba ^ (i + 1) * ((c + xs[i]?.getD 0 * 2 ^ s) / Ba) = val (xs.take (i + 1)) * 2 ^ s := by
  have e := val_set ((c + xs[i]?.getD 0 * 2 ^ s) % Ba) hi
  rw [h0 i (Nat.le_refl _)] at e
  rw [val_take_succ', Nat.pow_succ]
  have hm := Nat.mod_add_div (c + xs[i]?.getD 0 * 2 ^ s) Ba
  generalize (c + xs[i]?.getD 0 * 2 ^ s) % Ba = r at *
  generalize (c + xs[i]?.getD 0 * 2 ^ s) / Ba = q at *
  grind
theorem shl_carry {c x p : Nat} (hc : c < p) (hx : x < Ba) : (c + x * p) / Ba < p := by
  apply Nat.div_lt_of_lt_mul
  have h1 : (x + 1) * p ≤ Ba * p := Nat.mul_le_mul_right _ hx
  rw [Nat.add_mul, Nat.one_mul] at h1
  omega

/-- a round of the multiplication and subtraction of a digit -/
theorem ms_step {zs vs : List Nat} {j i c d z c' T : Nat} (hi : j + i < zs.length) (h : val zs + Ba ^ j * (d * val (vs.take i)) = T + Ba ^ (j + i) * c)
    (hz : z + (d * vs[i]?.getD 0 + c) = zs[j + i]?.getD 0 + Ba * c') :
    val (zs.set (j + i) z) + Ba ^ j * (d * val (vs.take (i + 1))) = T + Ba ^ (j + (i + 1)) * c' := by
  have e := val_set z hi
  rw [val_take_succ', ← Nat.add_assoc, Nat.pow_succ]
  rw [Nat.pow_add] at *
  generalize zs[j + i]?.getD 0 = y at *
  generalize vs[i]?.getD 0 = x at *
  generalize val (zs.set (j + i) z) = A at *
  generalize val (vs.take i) = B at *
  generalize Ba ^ j = p at *
  generalize Ba ^ i = q at *
  generalize Ba = b at *
  have hz' : p * q * (z + (d * x + c)) = p * q * (y + b * c') := by rw [hz]
  grind
theorem ms_carry {d x c y : Nat} (hd : d < Ba) (hx : x < Ba) (hc : c < Ba) (hy : y < Ba) :
    d * x + c < Ba * Ba ∧ (d * x + c) / Ba < Ba ∧ (y < (d * x + c) % Ba → (d * x + c) / Ba + 1 < Ba) := by
  have h1 : d * x ≤ (Ba - 1) * (Ba - 1) := Nat.mul_le_mul (by omega) (by omega)
  have e : (Ba - 1) * (Ba - 1) + (Ba - 1) = (Ba - 1) * Ba := by decide
  have e2 : (Ba - 1) * Ba < Ba * Ba := by decide
  have h2 : d * x + c ≤ (Ba - 1) * Ba := by omega
  clear h1 e
  generalize d * x + c = p at *
  have hm := Nat.mod_add_div p Ba
  refine ⟨by omega, Nat.div_lt_of_lt_mul (by omega), fun h => ?_⟩
  rcases Nat.lt_or_ge (p / Ba + 1) Ba with h3 | h3
  · exact h3
  · exfalso
    have h4 : (Ba - 1) * Ba ≤ p / Ba * Ba := Nat.mul_le_mul_right _ (by omega)
    rw [Nat.mul_comm (p / Ba)] at h4
    omega
/-- a round of the addition that takes a digit back -/
theorem ab_step {zs vs : List Nat} {j i c T : Nat} (hi : j + i < zs.length) (h : val zs + Ba ^ (j + i) * c = T + Ba ^ j * val (vs.take i)) :
    val (zs.set (j + i) ((c + (zs[j + i]?.getD 0 + vs[i]?.getD 0)) % Ba)) + Ba ^ (j + (i + 1)) * ((c + (zs[j + i]?.getD 0 + vs[i]?.getD 0)) / Ba) = T + Ba ^ j * val (vs.take (i + 1)) := by
  have e := val_set ((c + (zs[j + i]?.getD 0 + vs[i]?.getD 0)) % Ba) hi
  rw [val_take_succ', show j + (i + 1) = j + i + 1 from rfl, Nat.pow_succ]
  have hm := Nat.mod_add_div (c + (zs[j + i]?.getD 0 + vs[i]?.getD 0)) Ba
  generalize (c + (zs[j + i]?.getD 0 + vs[i]?.getD 0)) % Ba = r at *
  generalize (c + (zs[j + i]?.getD 0 + vs[i]?.getD 0)) / Ba = q at *
  rw [Nat.pow_add] at *
  grind
theorem ab_top {zs : List Nat} {k c T u : Nat} (hk : k < zs.length) (hu : zs[k]?.getD 0 = u) (h : val zs + Ba ^ k * c = T) : val (zs.set k ((u + c) % Ba)) + Ba ^ (k + 1) * ((u + c) / Ba) = T := by
  have e := val_set ((u + c) % Ba) hk
  rw [hu] at e
  have hm := Nat.mod_add_div (u + c) Ba
  generalize (u + c) % Ba = r at *
  generalize (u + c) / Ba = q at *
  rw [Nat.pow_succ]
  have e2 : Ba ^ k * (r + Ba * q) = Ba ^ k * (u + c) := by rw [hm]
  grind
/-- the top limb behind it -/
theorem ms_top {zs : List Nat} {k z c T D u : Nat} (hk : k < zs.length) (hu : zs[k]?.getD 0 = u) (h : val zs + D = T + Ba ^ k * c) (hz : z + c = u) : val (zs.set k z) + D = T := by
  have e := val_set z hk
  rw [hu, ← hz, Nat.mul_add] at e
  omega
theorem ms_top' {zs : List Nat} {k z c T D u : Nat} (hk : k < zs.length) (hu : zs[k]?.getD 0 = u) (h : val zs + D = T + Ba ^ k * c) (hz : z + c = u + Ba) : val (zs.set k z) + D = T + Ba ^ (k + 1) := by
  have e := val_set z hk
  rw [hu] at e
  have e2 : Ba ^ k * (z + c) = Ba ^ k * (u + Ba) := by rw [hz]
  rw [Nat.mul_add, Nat.mul_add] at e2
  rw [Nat.pow_succ]
  omega

/-- what the three leading limbs say -/
structure Kn (zs vs : List Nat) (j m : Nat) : Prop where
  len : vs.length = m + 2
  lbv : Lb vs
  lbz : Lb zs
  fit : j + m + 2 < zs.length
  norm : Ba ≤ 2 * vs[m + 1]?.getD 0
  top : val zs < val vs * Ba ^ (j + 1)

section
variable {zs vs : List Nat} {j m : Nat}
theorem Kn.V (h : Kn zs vs j m) : val vs = (vs[m + 1]?.getD 0 * Ba + vs[m]?.getD 0) * Ba ^ m + val (vs.take m) := by
  have hl := h.len
  have h1 := val_take_add_drop vs m (by omega)
  have h2 := val_drop (xs := vs) (k := m) (by omega)
  have h3 := val_drop (xs := vs) (k := m + 1) (by omega)
  rw [List.drop_of_length_le (show vs.length ≤ m + 1 + 1 by omega)] at h3
  rw [h1, h2, h3, val]
  generalize vs[m + 1]?.getD 0 = a
  generalize vs[m]?.getD 0 = b
  grind
theorem Kn.v1 (h : Kn zs vs j m) : 2147483648 ≤ vs[m + 1]?.getD 0 ∧ vs[m + 1]?.getD 0 < 4294967296 := by
  have h1 := h.norm
  have h2 := h.lbv.get (m + 1)
  rw [Ba_eq] at h1 h2
  omega
theorem Kn.low (h : Kn zs vs j m) : val (vs.take m) < Ba ^ m := val_take_lt h.lbv m
theorem Kn.Vlt (h : Kn zs vs j m) : val vs < Ba ^ (m + 2) := by have := val_lt h.lbv; rw [h.len] at this; exact this
theorem Kn.Vpos (h : Kn zs vs j m) : 0 < val vs := by
  rw [h.V]
  have h1 := h.v1.1
  have : 0 < (vs[m + 1]?.getD 0 * Ba + vs[m]?.getD 0) * Ba ^ m := Nat.mul_pos (by have := Nat.mul_pos (show 0 < vs[m + 1]?.getD 0 by omega) Ba_pos; omega) (Nat.pow_pos Ba_pos)
  omega
theorem Kn.split (h : Kn zs vs j m) : val zs = val (zs.take j) + Ba ^ j * val (zs.drop j) := val_take_add_drop zs j (by have := h.fit; omega)
theorem Kn.Ult (h : Kn zs vs j m) : val (zs.drop j) < val vs * Ba := by
  have h1 := h.split
  have h2 := h.top
  rw [Nat.pow_succ] at h2
  rcases Nat.lt_or_ge (val (zs.drop j)) (val vs * Ba) with h3 | h3
  · exact h3
  · have h4 : Ba ^ j * (val vs * Ba) ≤ Ba ^ j * val (zs.drop j) := Nat.mul_le_mul_left _ h3
    have e : Ba ^ j * (val vs * Ba) = val vs * (Ba ^ j * Ba) := by grind
    omega
theorem Kn.zero (h : Kn zs vs j m) : ∀ k, j + m + 3 ≤ k → zs[k]?.getD 0 = 0 := by
  apply zero_of_val
  have h1 := h.top
  have h2 : val vs * Ba ^ (j + 1) ≤ Ba ^ (m + 2) * Ba ^ (j + 1) := Nat.mul_le_mul_right _ (Nat.le_of_lt h.Vlt)
  rw [← Nat.pow_add] at h2
  have e : m + 2 + (j + 1) = j + m + 3 := by omega
  rw [e] at h2
  omega
theorem Kn.U (h : Kn zs vs j m) : val (zs.drop j) = ((zs[j + m + 2]?.getD 0 * Ba + zs[j + m + 1]?.getD 0) * Ba + zs[j + m]?.getD 0) * Ba ^ m + val ((zs.drop j).take m) := by
  have hf := h.fit
  have h1 := val_take_add_drop (zs.drop j) m (by simp; omega)
  rw [List.drop_drop] at h1
  have h2 := val_drop (xs := zs) (k := j + m) (by omega)
  have h3 := val_drop (xs := zs) (k := j + m + 1) (by omega)
  have h4 := val_drop (xs := zs) (k := j + m + 2) (by omega)
  have h5 : val (zs.drop (j + m + 2 + 1)) = 0 := by
    have e := val_take_of_zero (zs := zs.drop (j + m + 2 + 1)) (m := 0) (fun k _ => by rw [List.getElem?_drop]; exact h.zero _ (by omega))
    rw [← e]; rfl
  rw [h1, h2, h3, h4, h5]
  generalize zs[j + m + 2]?.getD 0 = a
  generalize zs[j + m + 1]?.getD 0 = b
  generalize zs[j + m]?.getD 0 = c
  grind
theorem Kn.ulow (h : Kn zs vs j m) : val ((zs.drop j).take m) < Ba ^ m := val_take_lt (h.lbz.drop j) m
/-- the top limb is at most that of the divisor -/
theorem Kn.u2 (h : Kn zs vs j m) : zs[j + m + 2]?.getD 0 ≤ vs[m + 1]?.getD 0 := by
  rcases Nat.lt_or_ge (vs[m + 1]?.getD 0) (zs[j + m + 2]?.getD 0) with hlt | hge
  · exfalso
    have h1 := h.Ult
    have h2 := h.U
    have h3 := h.V
    have h4 := h.low
    have h5 := h.lbv.get m
    generalize vs[m + 1]?.getD 0 = a at *
    generalize vs[m]?.getD 0 = b at *
    generalize zs[j + m + 2]?.getD 0 = u at *
    have e1 : val vs < (a + 1) * Ba * Ba ^ m := by
      have : (a * Ba + b + 1) * Ba ^ m ≤ (a + 1) * Ba * Ba ^ m := Nat.mul_le_mul_right _ (by rw [Nat.add_mul]; omega)
      rw [Nat.add_mul] at this
      omega
    have e2 : (a + 1) * Ba * Ba ^ m * Ba ≤ u * Ba * Ba * Ba ^ m := by
      have : (a + 1) * (Ba * Ba * Ba ^ m) ≤ u * (Ba * Ba * Ba ^ m) := Nat.mul_le_mul_right _ hlt
      grind
    have e3 : val vs * Ba ≤ (a + 1) * Ba * Ba ^ m * Ba := Nat.mul_le_mul_right _ (Nat.le_of_lt e1)
    have e4 : u * Ba * Ba * Ba ^ m ≤ val (zs.drop j) := by rw [h2]; grind
    omega
  · exact hge

/-- what the search for the digit keeps -/
structure Dg (zs vs : List Nat) (j m d rest : Nat) : Prop where
  eq : d * vs[m + 1]?.getD 0 + rest = zs[j + m + 2]?.getD 0 * Ba + zs[j + m + 1]?.getD 0
  ge : val (zs.drop j) / val vs ≤ d
  le : d ≤ Ba + 1

theorem Dg.start (h : Kn zs vs j m) {t : Nat} (ht : t = zs[j + m + 2]?.getD 0 * Ba + zs[j + m + 1]?.getD 0) : Dg zs vs j m (t / vs[m + 1]?.getD 0) (t % vs[m + 1]?.getD 0) := by
  have hv1 := h.v1
  have hp : 0 < vs[m + 1]?.getD 0 := by omega
  refine ⟨by rw [← ht, Nat.mul_comm]; exact Nat.div_add_mod _ _, ?_, ?_⟩
  · rw [Nat.le_div_iff_mul_le hp]
    refine kn_ge (V := val vs) (U := val (zs.drop j)) (P := Ba ^ (m + 1)) (lowV := vs[m]?.getD 0 * Ba ^ m + val (vs.take m)) ?_ ?_ (Nat.div_mul_le_self _ _)
    · rw [h.V, Nat.pow_succ]; grind
    · rw [h.U, ← ht, Nat.pow_succ]
      have h1 := h.ulow
      have h2 := h.lbz.get (j + m)
      generalize zs[j + m]?.getD 0 = c at *
      have : (c + 1) * Ba ^ m ≤ Ba * Ba ^ m := Nat.mul_le_mul_right _ h2
      have e1 : (t * Ba + c) * Ba ^ m = t * (Ba ^ m * Ba) + c * Ba ^ m := by grind
      have e2 : (t + 1) * (Ba ^ m * Ba) = t * (Ba ^ m * Ba) + Ba * Ba ^ m := by grind
      rw [Nat.add_mul] at this
      omega
  · have h1 := h.u2
    have h2 := h.lbz.get (j + m + 1)
    apply Nat.le_of_lt_succ
    apply Nat.div_lt_of_lt_mul
    rw [ht]
    generalize vs[m + 1]?.getD 0 = v at *
    generalize zs[j + m + 2]?.getD 0 = u at *
    generalize zs[j + m + 1]?.getD 0 = u' at *
    rw [Ba_eq] at *
    omega
theorem Kn.Q_lt (h : Kn zs vs j m) : val (zs.drop j) / val vs < Ba := div_lt_of h.Ult
/-- a digit that is found too large -/
theorem Dg.down (h : Kn zs vs j m) {d rest : Nat} (k : Dg zs vs j m d rest) (hd : Ba ≤ d ∨ rest * Ba + zs[j + m]?.getD 0 < d * vs[m]?.getD 0) :
    0 < d ∧ Dg zs vs j m (d - 1) (rest + vs[m + 1]?.getD 0) := by
  have hge : val (zs.drop j) / val vs < d := by
    rcases hd with h1 | h1
    · have := h.Q_lt; omega
    · rcases Nat.lt_or_ge (val (zs.drop j) / val vs) d with h2 | h2
      · exact h2
      · exfalso
        have e : val (zs.drop j) / val vs = d := Nat.le_antisymm k.ge h2
        have h3 := kn_too_large (U := val (zs.drop j)) (V := val vs) (Q := d) (top := zs[j + m + 2]?.getD 0 * Ba + zs[j + m + 1]?.getD 0) (v1 := vs[m + 1]?.getD 0) (v2 := vs[m]?.getD 0) (u0 := zs[j + m]?.getD 0) (P := Ba ^ m) (lowV := val (vs.take m)) (rest := rest) h.V
          (by rw [h.U, Nat.add_mul _ 1 (Ba ^ m)]; have := h.ulow; omega) (by rw [← e]; exact Nat.div_mul_le_self _ _) k.eq
        omega
  have hk := k.le
  refine ⟨Nat.lt_of_le_of_lt (Nat.zero_le _) hge, ?_, Nat.le_sub_one_of_lt hge, Nat.le_trans (Nat.sub_le _ _) hk⟩
  have hd0 : 0 < d := Nat.lt_of_le_of_lt (Nat.zero_le _) hge
  clear hge
  rw [← k.eq]
  obtain ⟨e, rfl⟩ : ∃ e, d = e + 1 := ⟨d - 1, by omega⟩
  rw [Nat.add_sub_cancel, Nat.add_mul]
  omega
/-- the digit that is taken is right or 1 too large -/
theorem Dg.found (h : Kn zs vs j m) {d rest : Nat} (k : Dg zs vs j m d rest) (hd : (d < Ba ∧ d * vs[m]?.getD 0 ≤ rest * Ba + zs[j + m]?.getD 0) ∨ Ba ≤ rest) :
    d < Ba ∧ (d = val (zs.drop j) / val vs ∨ d = val (zs.drop j) / val vs + 1) := by
  have hv1 := h.v1
  have hdlt : d < Ba := by
    rcases hd with h1 | h1
    · exact h1.1
    · have h2 := k.eq
      have h3 := h.u2
      have h4 := h.lbz.get (j + m + 1)
      rcases Nat.lt_or_ge d Ba with h5 | h5
      · exact h5
      · exfalso
        have h6 : Ba * vs[m + 1]?.getD 0 ≤ d * vs[m + 1]?.getD 0 := Nat.mul_le_mul_right _ h5
        have h7 : zs[j + m + 2]?.getD 0 * Ba ≤ vs[m + 1]?.getD 0 * Ba := Nat.mul_le_mul_right _ h3
        rw [Nat.mul_comm Ba] at h6
        omega
  have ht : d * vs[m]?.getD 0 ≤ rest * Ba + zs[j + m]?.getD 0 := by
    rcases hd with h1 | h1
    · exact h1.2
    · have h2 := h.lbv.get m
      have h3 : d * vs[m]?.getD 0 ≤ Ba * Ba := Nat.mul_le_mul (Nat.le_of_lt hdlt) (Nat.le_of_lt h2)
      have h4 : Ba * Ba ≤ rest * Ba := Nat.mul_le_mul_right _ h1
      omega
  refine ⟨hdlt, kn_quot h.Vpos k.ge ?_⟩
  exact kn_le (P := Ba ^ m) (lowV := val (vs.take m)) (lowU := val ((zs.drop j).take m)) (top := zs[j + m + 2]?.getD 0 * Ba + zs[j + m + 1]?.getD 0) (v1 := vs[m + 1]?.getD 0) (v2 := vs[m]?.getD 0) (u0 := zs[j + m]?.getD 0) (by omega) hdlt h.V h.low h.U k.eq ht
/-- the end without a borrow, with one -/
theorem Kn.done (h : Kn zs vs j m) {d : Nat} {ys : List Nat} (hd : d = val (zs.drop j) / val vs ∨ d = val (zs.drop j) / val vs + 1) (hy : val ys + Ba ^ j * (d * val vs) = val zs) :
    d = val (zs.drop j) / val vs := by
  refine kn_exact h.Vpos hd ?_
  have h1 := h.split
  have h2 := val_take_lt h.lbz j
  rcases Nat.lt_or_ge (val (zs.drop j)) (d * val vs) with h3 | h3
  · exfalso
    have h4 : Ba ^ j * (val (zs.drop j) + 1) ≤ Ba ^ j * (d * val vs) := Nat.mul_le_mul_left _ h3
    rw [Nat.mul_add, Nat.mul_one] at h4
    omega
  · exact h3
theorem Kn.less (h : Kn zs vs j m) {ys : List Nat} (hy : val ys + Ba ^ j * (val (zs.drop j) / val vs * val vs) = val zs) : val ys < val vs * Ba ^ j := by
  have h1 := h.split
  have h2 := val_take_lt h.lbz j
  have h3 := Nat.mod_add_div (val (zs.drop j)) (val vs)
  have h4 := Nat.mod_lt (val (zs.drop j)) h.Vpos
  generalize val (zs.drop j) / val vs = q at *
  generalize val (zs.drop j) % val vs = r at *
  have h5 : Ba ^ j * val (zs.drop j) = Ba ^ j * r + Ba ^ j * (q * val vs) := by rw [← h3]; grind
  have h6 : Ba ^ j * (r + 1) ≤ Ba ^ j * val vs := Nat.mul_le_mul_left _ h4
  rw [Nat.mul_add, Nat.mul_one] at h6
  rw [Nat.mul_comm (val vs)]
  omega
theorem Kn.borrowed (h : Kn zs vs j m) {d : Nat} {ys : List Nat} (hd : d = val (zs.drop j) / val vs ∨ d = val (zs.drop j) / val vs + 1) (hl : val ys < Ba ^ (j + m + 2 + 1)) (hy : val ys + Ba ^ j * (d * val vs) = val zs + Ba ^ (j + m + 2 + 1)) :
    d = val (zs.drop j) / val vs + 1 := by
  refine kn_back hd ?_
  have h1 := h.split
  rcases Nat.lt_or_ge (val (zs.drop j)) (d * val vs) with h3 | h3
  · exact h3
  · exfalso
    have h4 : Ba ^ j * (d * val vs) ≤ Ba ^ j * val (zs.drop j) := Nat.mul_le_mul_left _ h3
    omega
/-- adding back: the sum with the carry out of the top limb struck is the remainder -/
theorem Kn.back (h : Kn zs vs j m) {q : Nat} {ys xs : List Nat} {c : Nat} (hq : q = val (zs.drop j) / val vs) (hy : val ys + Ba ^ j * ((q + 1) * val vs) = val zs + Ba ^ (j + m + 2 + 1)) (hx : val xs + Ba ^ (j + m + 2 + 1) * c = val ys + Ba ^ j * val vs) (hl : val xs < Ba ^ (j + m + 2 + 1)) (hz : val zs < Ba ^ (j + m + 2 + 1)) :
    val xs + Ba ^ j * (q * val vs) = val zs := by
  have e : Ba ^ j * ((q + 1) * val vs) = Ba ^ j * (q * val vs) + Ba ^ j * val vs := by grind
  have hle : Ba ^ j * (q * val vs) ≤ val zs := by
    have h1 := h.split
    have h2 : q * val vs ≤ val (zs.drop j) := by rw [hq]; exact Nat.div_mul_le_self _ _
    have h3 : Ba ^ j * (q * val vs) ≤ Ba ^ j * val (zs.drop j) := Nat.mul_le_mul_left _ h2
    omega
  have h1 : c = 1 := by
    rcases Nat.lt_trichotomy c 1 with h2 | h2 | h2
    · have : c = 0 := by omega
      subst this; rw [Nat.mul_zero] at hx; omega
    · exact h2
    · have : Ba ^ (j + m + 2 + 1) * 2 ≤ Ba ^ (j + m + 2 + 1) * c := Nat.mul_le_mul_left _ h2
      omega
  subst h1
  omega
end

/-- a limb of a number shifted to the right by s bits -/
theorem shr_limb (A i s : Nat) (hs : s ≤ 32) : A / 2 ^ s / Ba ^ i % Ba = (A / Ba ^ i % (Ba * Ba)) / 2 ^ s % Ba := by
  have e1 : A / 2 ^ s / Ba ^ i = A / Ba ^ i / 2 ^ s := by rw [Nat.div_div_eq_div_mul, Nat.div_div_eq_div_mul, Nat.mul_comm]
  rw [e1]
  generalize A / Ba ^ i = X
  have hp : 2 ^ s * 2 ^ (32 - s) = Ba := by rw [← Nat.pow_add, show s + (32 - s) = 32 by omega]; rfl
  have hm := Nat.mod_add_div X (Ba * Ba)
  generalize X % (Ba * Ba) = r at *
  generalize X / (Ba * Ba) = t at *
  rw [← hm]
  have e2 : r + Ba * Ba * t = r + 2 ^ s * (2 ^ (32 - s) * t * Ba) := by
    rw [show Ba * Ba * t = (2 ^ s * 2 ^ (32 - s)) * Ba * t by rw [hp]]
    grind
  rw [e2, Nat.add_mul_div_left _ _ (Nat.pow_pos (by omega)), Nat.add_mul_mod_self_right]
theorem val_div (xs : List Nat) (h : Lb xs) (i : Nat) (hi : i ≤ xs.length) : val xs / Ba ^ i = val (xs.drop i) := by
  rw [val_take_add_drop xs i hi, Nat.add_mul_div_left _ _ (Nat.pow_pos Ba_pos), Nat.div_eq_of_lt (val_take_lt h i), Nat.zero_add]
/-- a round of the shift to the right -/
theorem shr_step {xs zs : List Nat} {i s : Nat} (hx : Lb xs) (hi : i < zs.length) (hix : i < xs.length) (h0 : ∀ k, i ≤ k → zs[k]?.getD 0 = 0) (hs : s ≤ 32)
    (h : val zs = val xs / 2 ^ s % Ba ^ i) :
    val (zs.set i ((xs[i]?.getD 0 + Ba * xs[i + 1]?.getD 0) / 2 ^ s % Ba)) = val xs / 2 ^ s % Ba ^ (i + 1) := by
  have e := val_set ((xs[i]?.getD 0 + Ba * xs[i + 1]?.getD 0) / 2 ^ s % Ba) hi
  rw [h0 i (Nat.le_refl _), Nat.mul_zero, Nat.add_zero, h] at e
  rw [e, Nat.pow_succ, Nat.mod_mul, shr_limb _ _ _ hs, val_div xs hx i (by omega), val_drop hix]
  have hx1 := hx.get i
  have hx2 := hx.get (i + 1)
  have e3 : (xs[i]?.getD 0 + Ba * val (xs.drop (i + 1))) % (Ba * Ba) = xs[i]?.getD 0 + Ba * xs[i + 1]?.getD 0 := by
    rcases Nat.lt_or_ge (i + 1) xs.length with h1 | h1
    · rw [val_drop h1]
      generalize xs[i]?.getD 0 = a at *
      generalize xs[i + 1]?.getD 0 = b at *
      generalize val (xs.drop (i + 1 + 1)) = t
      have e4 : a + Ba * (b + Ba * t) = (a + Ba * b) + Ba * Ba * t := by grind
      rw [e4, Nat.add_mul_mod_self_left]
      apply Nat.mod_eq_of_lt
      have : Ba * (b + 1) ≤ Ba * Ba := Nat.mul_le_mul_left _ hx2
      rw [Nat.mul_add] at this
      omega
    · rw [List.drop_of_length_le h1, List.getElem?_eq_none h1]
      simp only [val, Nat.mul_zero, Nat.add_zero, Option.getD_none]
      apply Nat.mod_eq_of_lt
      have : Ba ≤ Ba * Ba := by decide
      omega
  rw [e3]
end Gm
