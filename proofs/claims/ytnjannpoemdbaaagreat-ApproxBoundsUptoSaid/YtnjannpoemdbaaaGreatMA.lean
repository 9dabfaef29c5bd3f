/- Continued fractions, convergents, the simplest number of a range, best numbers with bounded denominators: plain mathematics of the rational numbers. -/
namespace Gm
/-- the continued fraction of n / d -/
def cf (n : Int) (d : Nat) : List Int := if _h : d = 0 then [] else (n / d) :: cf d (n % d).toNat
termination_by d
decreasing_by
  have := Int.emod_lt_of_pos n (show (0:Int) < d by omega)
  have := Int.emod_nonneg n (show (d:Int) ≠ 0 by omega)
  omega
theorem cf_zero (n : Int) : cf n 0 = [] := by rw [cf]; simp
theorem cf_pos (n : Int) {d : Nat} (h : d ≠ 0) : cf n d = (n / d) :: cf d (n % d).toNat := by rw [cf]; simp [h]
/-- the columns of the product of the matrices of the terms -/
def cv : List Int → Int × Int
  | [] => (1, 0)
  | a :: l => (a * (cv l).1 + (cv l).2, (cv l).1)
def cw : List Int → Int × Int
  | [] => (0, 1)
  | a :: l => (a * (cw l).1 + (cw l).2, (cw l).1)
theorem cv_app (l m : List Int) : cv (l ++ m) = ((cv l).1 * (cv m).1 + (cw l).1 * (cv m).2, (cv l).2 * (cv m).1 + (cw l).2 * (cv m).2) := by
  induction l with
  | nil => simp [cv, cw]
  | cons a l ih =>
    simp only [List.cons_append, cv, cw, ih]
    apply Prod.ext
    · simp only; grind
    · rfl
theorem cw_app (l m : List Int) : cw (l ++ m) = ((cv l).1 * (cw m).1 + (cw l).1 * (cw m).2, (cv l).2 * (cw m).1 + (cw l).2 * (cw m).2) := by
  induction l with
  | nil => simp [cv, cw]
  | cons a l ih =>
    simp only [List.cons_append, cv, cw, ih]
    apply Prod.ext
    · simp only; grind
    · rfl
theorem cv_snoc (l : List Int) (x : Int) : cv (l ++ [x]) = ((cw l).1 + x * (cv l).1, (cw l).2 + x * (cv l).2) := by
  rw [cv_app]; simp only [cv]; apply Prod.ext <;> simp only <;> grind
theorem cw_snoc (l : List Int) (x : Int) : cw (l ++ [x]) = cv l := by
  rw [cw_app]; simp only [cw]; apply Prod.ext <;> simp only <;> grind
theorem c_det (l : List Int) : (cv l).1 * (cw l).2 - (cw l).1 * (cv l).2 = (-1) ^ l.length := by
  induction l with
  | nil => simp [cv, cw]
  | cons a l ih => simp only [cv, cw, List.length_cons, Int.pow_succ]; grind
/-- all terms are at least 1 -/
def Pos (l : List Int) : Prop := ∀ x ∈ l, 1 ≤ x
theorem Pos.tail {a : Int} {l : List Int} (h : Pos (a :: l)) : 1 ≤ a ∧ Pos l := ⟨h a List.mem_cons_self, fun x hx => h x (List.mem_cons_of_mem _ hx)⟩
theorem Pos.drop {l : List Int} (h : Pos l) (k : Nat) : Pos (l.drop k) := fun x hx => h x (List.mem_of_mem_drop hx)
theorem Pos.take {l : List Int} (h : Pos l) (k : Nat) : Pos (l.take k) := fun x hx => h x (List.mem_of_mem_take hx)
theorem cv_pos {l : List Int} (h : Pos l) : 1 ≤ (cv l).1 ∧ 0 ≤ (cv l).2 ∧ (cv l).2 ≤ (cv l).1 ∧ (l ≠ [] → 1 ≤ (cv l).2) := by
  induction l with
  | nil => simp [cv]
  | cons a l ih =>
    obtain ⟨ha, hl⟩ := h.tail
    obtain ⟨h1, h2, h3, h4⟩ := ih hl
    simp only [cv]
    have : (cv l).1 ≤ a * (cv l).1 := by
      have := Int.mul_le_mul_of_nonneg_right ha (show 0 ≤ (cv l).1 by omega)
      omega
    exact ⟨by omega, by omega, by omega, fun _ => h1⟩
theorem cw_nn {l : List Int} (h : Pos l) : 0 ≤ (cw l).1 ∧ 0 ≤ (cw l).2 := by
  induction l with
  | nil => simp [cw]
  | cons a l ih =>
    obtain ⟨ha, hl⟩ := h.tail
    obtain ⟨h1, h2⟩ := ih hl
    simp only [cw]
    have := Int.mul_nonneg (show 0 ≤ a by omega) h1
    exact ⟨by omega, h1⟩
/-- a list whose last term is at least 2 -/
def Last2 (l : List Int) : Prop := ∀ x, l.getLast? = some x → 2 ≤ x
theorem cv_lt {l : List Int} (h : Pos l) (h2 : Last2 l) : (cv l).2 < (cv l).1 := by
  cases l with
  | nil => simp [cv]
  | cons a l =>
    obtain ⟨ha, hl⟩ := h.tail
    simp only [cv]
    cases l with
    | nil => have := h2 a rfl; simp [cv]; omega
    | cons b l =>
      have h4 := (cv_pos hl).2.2.2 (by simp)
      have h1 := (cv_pos hl).1
      have := Int.mul_le_mul_of_nonneg_right ha (show 0 ≤ (cv (b :: l)).1 by omega)
      omega
theorem Last2.tail {a : Int} {l : List Int} (h : Last2 (a :: l)) : Last2 l := by
  intro x hx
  refine h x ?_
  cases l with
  | nil => cases hx
  | cons b l => rw [List.getLast?_cons_cons]; exact hx
theorem Last2.drop {l : List Int} (h : Last2 l) : ∀ k, Last2 (l.drop k) := by
  induction l with
  | nil => intro k; simpa using h
  | cons a l ih => intro k; cases k with
    | zero => exact h
    | succ k => exact ih h.tail k
/-- the terms behind the first are at least 1, and the last of them at least 2 -/
theorem cf_terms : ∀ (r : Nat) (m : Nat), r < m → Pos (cf m r) ∧ Last2 (cf m r) := by
  intro r
  induction r using Nat.strongRecOn with
  | _ r ih =>
    intro m hm
    by_cases h : r = 0
    · subst h; rw [cf_zero]; exact ⟨(by intro x hx; cases hx), (by intro x hx; cases hx)⟩
    · rw [cf_pos _ h]
      have e : ((m : Int) % (r : Int)).toNat = m % r := by omega
      rw [e]
      have hlt : m % r < r := Nat.mod_lt _ (by omega)
      obtain ⟨h1, h2⟩ := ih (m % r) hlt r hlt
      have hq : ((m : Int) / (r : Int)) = ((m / r : Nat) : Int) := by omega
      have hq1 : 1 ≤ m / r := Nat.div_pos (by omega) (by omega)
      refine ⟨fun x hx => ?_, fun x hx => ?_⟩
      · rcases List.mem_cons.1 hx with rfl | hx
        · rw [hq]; omega
        · exact h1 x hx
      · by_cases h0 : m % r = 0
        · rw [h0, cf_zero] at hx
          simp at hx
          rw [← hx, hq]
          have h3 := Nat.div_add_mod m r
          rw [h0] at h3
          have : m / r ≠ 1 := by intro e1; rw [e1] at h3; omega
          omega
        · have hne : cf r (m % r) ≠ [] := by rw [cf_pos _ h0]; simp
          refine h2 x ?_
          cases hl : cf r (m % r) with
          | nil => exact absurd hl hne
          | cons b l => rw [hl, List.getLast?_cons_cons] at hx; exact hx
theorem cf_len : ∀ (k d : Nat) (n : Int), d < 2 ^ k → (cf n d).length ≤ 2 * k + 1 := by
  intro k
  induction k with
  | zero => intro d n h; have : d = 0 := by simpa using h
            subst this; rw [cf_zero]; simp
  | succ k ih =>
    intro d n h
    by_cases h0 : d = 0
    · subst h0; rw [cf_zero]; simp
    · rw [cf_pos _ h0]
      have hr0 := Int.emod_nonneg n (show (d : Int) ≠ 0 by omega)
      have hr1 := Int.emod_lt_of_pos n (show (0 : Int) < d by omega)
      generalize hr : (n % (d : Int)).toNat = r
      have hrd : r < d := by omega
      by_cases h1 : r = 0
      · rw [h1, cf_zero]; simp
      · rw [cf_pos _ h1]
        have e : ((d : Int) % (r : Int)).toNat = d % r := by omega
        rw [e]
        have hlt : d % r < r := Nat.mod_lt _ (by omega)
        have hdiv : 1 ≤ d / r := Nat.div_pos (by omega) (by omega)
        have h3 := Nat.div_add_mod d r
        have h4 : r * 1 ≤ r * (d / r) := Nat.mul_le_mul_left r hdiv
        rw [Nat.pow_succ] at h
        have := ih (d % r) r (by omega)
        simp only [List.length_cons]
        omega
/-- the fraction is the value of its terms, but for a common factor -/
theorem cv_cf : ∀ (d : Nat) (n : Int), d ≠ 0 → ∃ g : Nat, n = g * (cv (cf n d)).1 ∧ (d : Int) = g * (cv (cf n d)).2 := by
  intro d
  induction d using Nat.strongRecOn with
  | _ d ih =>
    intro n h
    have hr0 := Int.emod_nonneg n (show (d : Int) ≠ 0 by omega)
    have hr1 := Int.emod_lt_of_pos n (show (0 : Int) < d by omega)
    have hm := Int.mul_ediv_add_emod n d
    rw [cf_pos _ h]
    generalize hr : (n % (d : Int)).toNat = r
    have er : n % (d : Int) = (r : Int) := by omega
    rw [er] at hm
    by_cases h1 : r = 0
    · refine ⟨d, ?_, ?_⟩
      · rw [h1, cf_zero]; simp only [cv]; rw [h1] at hm; grind
      · rw [h1, cf_zero]; simp [cv]
    · obtain ⟨g, e1, e2⟩ := ih r (by omega) d h1
      refine ⟨g, ?_, by simp only [cv]; exact e1⟩
      simp only [cv]
      grind
/-- the continued fraction of a number -/
def cfq (q : Rat) : List Int := cf q.num q.den
theorem cv_cfq (q : Rat) : cv (cfq q) = (q.num, (q.den : Int)) := by
  obtain ⟨g, h1, h2⟩ := cv_cf q.den q.num q.den_nz
  have hg : g ∣ 1 := by
    have hred := q.reduced
    unfold Nat.Coprime at hred
    rw [← hred]
    refine Nat.dvd_gcd ?_ ?_
    · have : (g : Int) ∣ q.num := ⟨_, h1⟩
      exact Int.ofNat_dvd_left.1 this
    · have : (g : Int) ∣ (q.den : Int) := ⟨_, h2⟩
      exact Int.ofNat_dvd.1 this
  have hg1 : g = 1 := Nat.dvd_one.1 hg
  rw [hg1] at h1 h2
  simp only [Int.cast_ofNat_Int, Int.one_mul] at h1 h2
  exact Prod.ext h1.symm h2.symm
theorem cfq_ne (q : Rat) : cfq q ≠ [] := by unfold cfq; rw [cf_pos _ q.den_nz]; simp
theorem cfq_tail (q : Rat) : Pos (cfq q).tail ∧ Last2 (cfq q).tail := by
  unfold cfq
  rw [cf_pos _ q.den_nz, List.tail_cons]
  have hr0 := Int.emod_nonneg q.num (show (q.den : Int) ≠ 0 by have := q.den_nz; omega)
  have hr1 := Int.emod_lt_of_pos q.num (show (0 : Int) < q.den by have := q.den_pos; omega)
  exact cf_terms _ _ (by omega)
theorem drop_tail {α : Type} (l : List α) (k : Nat) (h : 1 ≤ k) : l.drop k = l.tail.drop (k - 1) := by
  cases l with
  | nil => simp
  | cons a l => cases k with
    | zero => omega
    | succ k => simp
theorem cfq_drop (q : Rat) {k : Nat} (h : 1 ≤ k) : Pos ((cfq q).drop k) ∧ Last2 ((cfq q).drop k) := by
  rw [drop_tail _ _ h]
  exact ⟨(cfq_tail q).1.drop _, (cfq_tail q).2.drop _⟩
/-- what is left when the whole part is taken off -/
theorem rat_ext_mk {n : Int} {d : Nat} (hd : d ≠ 0) (hc : n.natAbs.gcd d = 1) : (mkRat n d).num = n ∧ (mkRat n d).den = d := by
  rw [Rat.num_mkRat, Rat.den_mkRat, if_neg hd, if_neg hd, Nat.gcd_comm, hc]
  simp
theorem frac_part (q : Rat) : (q + -(q.floor : Rat)).num = q.num % q.den ∧ (q + -(q.floor : Rat)).den = q.den := by
  have hd := q.den_nz
  have e : q + -(q.floor : Rat) = mkRat (q.num % q.den) q.den := by
    rw [Rat.add_def', Rat.neg_num, Rat.neg_den, Rat.num_intCast, Rat.den_intCast, Nat.mul_one, Rat.floor_def]
    have := Int.mul_ediv_add_emod q.num q.den
    congr 1
    grind
  rw [e]
  refine rat_ext_mk hd ?_
  have hred := q.reduced
  unfold Nat.Coprime at hred
  have h1 := Nat.gcd_dvd_left (q.num % (q.den : Int)).natAbs q.den
  have h2 := Nat.gcd_dvd_right (q.num % (q.den : Int)).natAbs q.den
  generalize (q.num % (q.den : Int)).natAbs.gcd q.den = g at h1 h2
  have h3 : (g : Int) ∣ q.num % (q.den : Int) := Int.ofNat_dvd_left.2 h1
  have h4 : (g : Int) ∣ (q.den : Int) := Int.ofNat_dvd.2 h2
  have h5 : (g : Int) ∣ q.num := (by rw [← Int.mul_ediv_add_emod q.num q.den]; exact Int.dvd_add (Int.dvd_trans h4 (Int.dvd_mul_right _ _)) h3)
  have h6 : g ∣ 1 := by rw [← hred]; exact Nat.dvd_gcd (Int.ofNat_dvd_left.1 h5) h2
  exact Nat.dvd_one.1 h6
theorem frac_zero (q : Rat) : q + -(q.floor : Rat) = 0 ↔ q.num % (q.den : Int) = 0 := by
  rw [← Rat.num_eq_zero, (frac_part q).1]
/-- one step of the continued fraction -/
theorem cfq_step (q : Rat) : cfq q = q.floor :: if q + -(q.floor : Rat) = 0 then [] else cfq (q + -(q.floor : Rat))⁻¹ := by
  conv => lhs; unfold cfq
  rw [cf_pos _ q.den_nz, Rat.floor_def]
  rw [← Rat.floor_def]
  congr 1
  have hr0 := Int.emod_nonneg q.num (show (q.den : Int) ≠ 0 by have := q.den_nz; omega)
  by_cases h : q + -(q.floor : Rat) = 0
  · rw [if_pos h, (frac_zero q).1 h]; exact cf_zero _
  · rw [if_neg h]
    have h2 : q.num % (q.den : Int) ≠ 0 := fun e => h ((frac_zero q).2 e)
    unfold cfq
    rw [Rat.num_inv, Rat.den_inv, (frac_part q).1, (frac_part q).2, if_neg h2, Int.sign_eq_one_of_pos (by omega), Int.one_mul]
    congr 1
    omega
theorem dI_lt {p s : Int} (hs : 0 < s) (q : Rat) : Rat.divInt p s < q ↔ p * q.den < q.num * s := by
  have hd : (0 : Rat) < ((q.den : Int) : Rat) := by rw [Rat.intCast_pos]; have := q.den_pos; omega
  have hs' : (0 : Rat) < (s : Rat) := Rat.intCast_pos.2 hs
  conv => lhs; rhs; rw [← Rat.num_divInt_den q]
  rw [Rat.divInt_eq_div, Rat.divInt_eq_div, Rat.div_lt_iff hs']
  have e : (q.num : Rat) / ((q.den : Int) : Rat) * (s : Rat) = ((q.num * s : Int) : Rat) / ((q.den : Int) : Rat) := by
    rw [Rat.intCast_mul]; grind
  rw [e, Rat.lt_div_iff hd, ← Rat.intCast_mul, Rat.intCast_lt_intCast]
theorem lt_dI {p s : Int} (hs : 0 < s) (q : Rat) : q < Rat.divInt p s ↔ q.num * s < p * q.den := by
  have hd : (0 : Rat) < ((q.den : Int) : Rat) := by rw [Rat.intCast_pos]; have := q.den_pos; omega
  have hs' : (0 : Rat) < (s : Rat) := Rat.intCast_pos.2 hs
  conv => lhs; lhs; rw [← Rat.num_divInt_den q]
  rw [Rat.divInt_eq_div, Rat.divInt_eq_div, Rat.lt_div_iff hs']
  have e : (q.num : Rat) / ((q.den : Int) : Rat) * (s : Rat) = ((q.num * s : Int) : Rat) / ((q.den : Int) : Rat) := by
    rw [Rat.intCast_mul]; grind
  rw [e, Rat.div_lt_iff hd, ← Rat.intCast_mul, Rat.intCast_lt_intCast]
/-- the value of terms -/
def fval (l : List Int) : Rat := Rat.divInt (cv l).1 (cv l).2
/-- there is a value: no division by 0 on the way -/
def fok (l : List Int) : Prop := l ≠ [] ∧ ∀ j, 1 ≤ j → j < l.length → (cv (l.drop j)).1 ≠ 0
theorem fok.den {l : List Int} (h : fok l) {j : Nat} (hj : j < l.length) : (cv (l.drop j)).2 ≠ 0 := by
  have e : l.drop j = l[j] :: l.drop (j + 1) := List.drop_eq_getElem_cons hj
  rw [e]
  simp only [cv]
  by_cases h1 : j + 1 < l.length
  · exact h.2 _ (by omega) h1
  · rw [List.drop_eq_nil_of_le (by omega)]; simp [cv]
theorem fval_one (a : Int) : fval [a] = a := by
  simp only [fval, cv]
  rw [Rat.divInt_eq_div]
  simp
  grind
theorem fval_cons (a : Int) {l : List Int} (h1 : (cv l).1 ≠ 0) : fval (a :: l) = (a : Rat) + (fval l)⁻¹ := by
  simp only [fval, cv]
  rw [Rat.inv_divInt, Rat.divInt_eq_div, Rat.divInt_eq_div]
  have h1' : ((cv l).1 : Rat) ≠ 0 := fun e => h1 (Rat.intCast_eq_zero_iff.1 e)
  simp only [Rat.intCast_add, Rat.intCast_mul]
  grind
theorem fval_zero {l : List Int} (h2 : (cv l).2 ≠ 0) : fval l = 0 ↔ (cv l).1 = 0 := by
  unfold fval
  constructor
  · intro h
    rw [← Rat.divInt_zero 0, ] at h
    rw [Rat.divInt_zero, ← Rat.zero_divInt 1, Rat.divInt_eq_divInt_iff h2 (by decide)] at h
    simpa using h
  · intro h; rw [h, Rat.zero_divInt]
theorem fok_cfq (q : Rat) : fok (cfq q) := by
  refine ⟨cfq_ne q, fun j hj _ => ?_⟩
  have := (cv_pos (cfq_drop q hj).1).1
  omega
theorem fval_cfq (q : Rat) : fval (cfq q) = q := by
  unfold fval; rw [cv_cfq, Rat.num_divInt_den]
/-- what is known of the terms up to i -/
structure Part (q : Rat) (i : Nat) (p p' s s' u v : Int) : Prop where
  num : q.num = p * u + p' * v
  den : (q.den : Int) = s * u + s' * v
  det : p * s' - p' * s = (-1) ^ i
  s1 : 1 ≤ s
  s'0 : 0 ≤ s'
  u1 : 1 ≤ u
  v0 : 0 ≤ v
  vu : v < u
theorem part (q : Rat) {i : Nat} (h1 : 1 ≤ i) (hi : i ≤ (cfq q).length) : Part q i (cv ((cfq q).take i)).1 (cw ((cfq q).take i)).1 (cv ((cfq q).take i)).2 (cw ((cfq q).take i)).2 (cv ((cfq q).drop i)).1 (cv ((cfq q).drop i)).2 := by
  have e := cv_app ((cfq q).take i) ((cfq q).drop i)
  rw [List.take_append_drop, cv_cfq] at e
  obtain ⟨d1, d2⟩ := cfq_drop q h1
  have hp := cv_pos d1
  have ht : Pos ((cfq q).take i).tail := by
    have : ((cfq q).take i).tail = (cfq q).tail.take (i - 1) := by
      cases hl : cfq q with
      | nil => simp
      | cons a l => cases i with
        | zero => omega
        | succ i => simp
    rw [this]; exact (cfq_tail q).1.take _
  have hne : (cfq q).take i ≠ [] := by
    intro h0
    have := congrArg List.length h0
    rw [List.length_take] at this
    have h3 : 0 < (cfq q).length := List.length_pos_iff.2 (cfq_ne q)
    rw [List.length_nil] at this; omega
  have hl : ((cfq q).take i).length = i := by rw [List.length_take]; omega
  refine ⟨?_, ?_, ?_, ?_, ?_, hp.1, hp.2.1, cv_lt d1 d2⟩
  · exact congrArg Prod.fst e
  · exact congrArg Prod.snd e
  · have := c_det ((cfq q).take i); rw [hl] at this; exact this
  · cases hc : (cfq q).take i with
    | nil => exact absurd hc hne
    | cons a l => rw [hc] at ht; exact (cv_pos ht).1
  · cases hc : (cfq q).take i with
    | nil => exact absurd hc hne
    | cons a l => rw [hc] at ht; exact (cw_nn ht).1
theorem Part.s_le {q : Rat} {i : Nat} {p p' s s' u v : Int} (h : Part q i p p' s s' u v) : s ≤ q.den ∧ v < q.den := by
  obtain ⟨h1, h2, h3, h4, h5, h6, h7, h8⟩ := h
  have a1 : s * 1 ≤ s * u := Int.mul_le_mul_of_nonneg_left h6 (by omega)
  have a2 : 0 ≤ s' * v := Int.mul_nonneg h5 h7
  have a3 : 1 * u ≤ s * u := Int.mul_le_mul_of_nonneg_right h4 (by omega)
  omega
theorem Part.cross {q : Rat} {i : Nat} {p p' s s' u v : Int} (h : Part q i p p' s s' u v) : p * q.den - q.num * s = v * (-1) ^ i := by
  have h1 := h.num; have h2 := h.den; have h3 := h.det
  rw [h1, h2, ← h3]; grind
theorem sgn_pow (i : Nat) : ((-1 : Int)) ^ i = if i % 2 = 0 then 1 else -1 := by
  induction i with
  | zero => rfl
  | succ i ih => rw [Int.pow_succ, ih]; by_cases h : i % 2 = 0
                 · rw [if_pos h, if_neg (by omega)]; rfl
                 · rw [if_neg h, if_pos (by omega)]; rfl
theorem Part.p_le {q : Rat} {i : Nat} {p p' s s' u v : Int} (h : Part q i p p' s s' u v) : p.natAbs ≤ q.num.natAbs + 1 := by
  obtain ⟨b1, b2⟩ := h.s_le
  have hc := h.cross
  have hv := h.v0
  have hs := h.s1
  have hd := q.den_pos
  rw [sgn_pow] at hc
  have e : p * q.den ≤ q.num * s + v ∧ q.num * s - v ≤ p * q.den := by
    split at hc <;> omega
  -- bounds of the product num * s
  have f1 : q.num * s ≤ (q.num.natAbs : Int) * q.den := Int.le_trans (Int.mul_le_mul_of_nonneg_right (by omega) (by omega)) (Int.mul_le_mul_of_nonneg_left b1 (by omega))
  have f2 : -((q.num.natAbs : Int) * q.den) ≤ q.num * s := by
    have := Int.le_trans (Int.mul_le_mul_of_nonneg_right (show -q.num ≤ (q.num.natAbs : Int) by omega) (show 0 ≤ s by omega)) (Int.mul_le_mul_of_nonneg_left b1 (show 0 ≤ (q.num.natAbs : Int) by omega))
    have e2 : -q.num * s = -(q.num * s) := Int.neg_mul _ _
    omega
  have g1 : p * q.den ≤ ((q.num.natAbs : Int) + 1) * q.den := by rw [Int.add_mul]; omega
  have g2 : -p * q.den ≤ ((q.num.natAbs : Int) + 1) * q.den := by rw [Int.add_mul, Int.neg_mul]; omega
  have k1 := Int.le_of_mul_le_mul_right g1 (by omega)
  have k2 := Int.le_of_mul_le_mul_right g2 (by omega)
  omega
/-- the i-th convergent -/
def conv (q : Rat) (i : Nat) : Rat := fval ((cfq q).take (i + 1))
theorem conv_last (q : Rat) : conv q ((cfq q).length - 1) = q := by
  unfold conv
  have h3 : 0 < (cfq q).length := List.length_pos_iff.2 (cfq_ne q)
  rw [List.take_of_length_le (by omega), fval_cfq]
theorem conv_side (q : Rat) {i : Nat} (hi : i + 1 < (cfq q).length) : (i % 2 = 0 → conv q i < q) ∧ (i % 2 ≠ 0 → q < conv q i) := by
  have h := part q (i := i + 1) (by omega) (by omega)
  have hc := h.cross
  have hs := h.s1
  have hv : 1 ≤ (cv ((cfq q).drop (i + 1))).2 := (cv_pos (cfq_drop q (by omega)).1).2.2.2 (by
    intro h0
    have := congrArg List.length h0
    rw [List.length_drop] at this
    simp at this; omega)
  rw [sgn_pow] at hc
  unfold conv fval
  refine ⟨fun h0 => ?_, fun h0 => ?_⟩
  · rw [dI_lt (by omega)]; rw [if_neg (by omega)] at hc; omega
  · rw [lt_dI (by omega)]; rw [if_pos (by omega)] at hc; omega
theorem dI_sub {p s : Int} (hs : s ≠ 0) (q : Rat) : Rat.divInt p s + -q = ((p * q.den - q.num * s : Int) : Rat) / ((s : Rat) * ((q.den : Int) : Rat)) := by
  have hd : ((q.den : Int) : Rat) ≠ 0 := fun e => q.den_nz (by have := Rat.intCast_eq_zero_iff.1 e; omega)
  have hs' : (s : Rat) ≠ 0 := fun e => hs (Rat.intCast_eq_zero_iff.1 e)
  conv => lhs; rhs; rw [← Rat.num_divInt_den q]
  rw [Rat.divInt_eq_div, Rat.divInt_eq_div, Rat.intCast_sub, Rat.intCast_mul, Rat.intCast_mul]
  grind
theorem sq_lt {x y a b : Rat} (h0 : 0 ≤ y) (h : y < x) (ha : a = x ∨ a = -x) (hb : b = y ∨ b = -y) : b * b < a * a := by
  have e1 : a * a = x * x := by rcases ha with rfl | rfl <;> grind
  have e2 : b * b = y * y := by rcases hb with rfl | rfl <;> grind
  rw [e1, e2]
  have hx : 0 < x := by grind
  have h1 : y * y ≤ y * x := Rat.mul_le_mul_of_nonneg_left (Rat.le_of_lt h) h0
  have h2 : y * x < x * x := Rat.mul_lt_mul_of_pos_right h hx
  grind
theorem div_lt_div' {a b c d : Rat} (hb : 0 < b) (h : a < c) (h0 : 0 ≤ a) (hbd : b ≤ d) : a / d < c / b := by
  have hd : 0 < d := by grind
  rw [Rat.div_lt_iff hd]
  have e : c / b * d = (c * d) / b := by grind
  rw [e, Rat.lt_div_iff hb]
  have h1 : a * b ≤ a * d := Rat.mul_le_mul_of_nonneg_left hbd h0
  have h2 : a * d < c * d := Rat.mul_lt_mul_of_pos_right h hd
  grind
theorem conv_closer (q : Rat) {i : Nat} (hi : i + 1 < (cfq q).length) : (conv q (i + 1) + -q) * (conv q (i + 1) + -q) < (conv q i + -q) * (conv q i + -q) := by
  have h := part q (i := i + 1) (by omega) (by omega)
  have k := part q (i := i + 2) (by omega) (by omega)
  have hd : (0 : Rat) < ((q.den : Int) : Rat) := by rw [Rat.intCast_pos]; have := q.den_pos; omega
  have hs : (0 : Rat) < (((cv ((cfq q).take (i + 1))).2 : Int) : Rat) := Rat.intCast_pos.2 (by have := h.s1; omega)
  have ks : (0 : Rat) < (((cv ((cfq q).take (i + 2))).2 : Int) : Rat) := Rat.intCast_pos.2 (by have := k.s1; omega)
  have hge : i + 1 < (cfq q).length := hi
  -- the terms between
  have ed : (cfq q).drop (i + 1) = (cfq q)[i + 1] :: (cfq q).drop (i + 2) := List.drop_eq_getElem_cons hge
  have et : (cfq q).take (i + 2) = (cfq q).take (i + 1) ++ [(cfq q)[i + 1]] := (List.take_succ_eq_append_getElem hge)
  have hx : 1 ≤ (cfq q)[i + 1] := (cfq_drop q (k := i + 1) (by omega)).1 _ (by rw [ed]; exact List.mem_cons_self)
  have hv : (cv ((cfq q).drop (i + 1))).2 = (cv ((cfq q).drop (i + 2))).1 := by rw [ed]; rfl
  have hss : (cv ((cfq q).take (i + 1))).2 ≤ (cv ((cfq q).take (i + 2))).2 := by
    rw [et, cv_snoc]
    simp only
    have := h.s'0
    have := Int.mul_le_mul_of_nonneg_right hx (show 0 ≤ (cv ((cfq q).take (i + 1))).2 by have := h.s1; omega)
    omega
  have hlt := k.vu
  rw [← hv] at hlt
  have k0 := k.v0
  have c1 := h.cross
  have c2 := k.cross
  rw [sgn_pow] at c1 c2
  unfold conv fval
  have n1 : (cv ((cfq q).take (i + 1))).2 ≠ 0 := by have := h.s1; omega
  have n2 : (cv ((cfq q).take (i + 2))).2 ≠ 0 := by have := k.s1; omega
  rw [dI_sub n1, dI_sub n2, c1, c2]
  generalize (cv ((cfq q).take (i + 1))).2 = s at *
  generalize (cv ((cfq q).take (i + 2))).2 = t at *
  generalize (cv ((cfq q).drop (i + 1))).2 = v at *
  generalize (cv ((cfq q).drop (i + 2))).2 = z at *
  generalize ((q.den : Int) : Rat) = D at *
  refine sq_lt (x := (v : Rat) / ((s : Rat) * D)) (y := (z : Rat) / ((t : Rat) * D)) ?_ ?_ ?_ ?_
  · rw [Rat.div_def]; exact Rat.mul_nonneg (Rat.intCast_nonneg.2 k0) (Rat.le_of_lt (Rat.inv_pos.2 (Rat.mul_pos ks hd)))
  · refine div_lt_div' (Rat.mul_pos hs hd) (Rat.intCast_lt_intCast.2 hlt) (Rat.intCast_nonneg.2 k0) ?_
    exact Rat.mul_le_mul_of_nonneg_right (Rat.intCast_le_intCast.2 hss) (Rat.le_of_lt hd)
  · split
    · left; rw [Int.mul_one]
    · right; rw [show v * -1 = -v by omega, Rat.intCast_neg]; grind
  · split
    · left; rw [Int.mul_one]
    · right; rw [show z * -1 = -z by omega, Rat.intCast_neg]; grind
/-- the numerators on the way are no greater than the denominator of the whole -/
theorem cv_drop_le (q : Rat) (i : Nat) {j : Nat} (h1 : 1 ≤ j) : 0 ≤ (cv (((cfq q).take i).drop j)).1 ∧ (cv (((cfq q).take i).drop j)).1 ≤ q.den := by
  have hp : Pos ((cfq q).drop 1) := (cfq_drop q (by omega)).1
  have e : (cv ((cfq q).drop 1)).1 = q.den := by
    have h3 : 0 < (cfq q).length := List.length_pos_iff.2 (cfq_ne q)
    have h4 := cv_cfq q
    have h5 : cfq q = (cfq q)[0] :: (cfq q).drop 1 := by have := List.drop_eq_getElem_cons h3; simpa using this
    rw [h5] at h4
    simp only [cv] at h4
    exact congrArg Prod.snd h4
  rw [← e]
  have key : ∀ (l : List Int), Pos l → ∀ k, (cv (l.drop k)).1 ≤ (cv l).1 := by
    intro l
    induction l with
    | nil => intro _ k; simp
    | cons a l ih =>
      intro h k
      cases k with
      | zero => simp
      | succ k =>
        obtain ⟨ha, hl⟩ := h.tail
        have := ih hl k
        have h6 := cv_pos hl
        have := Int.mul_le_mul_of_nonneg_right ha (show 0 ≤ (cv l).1 by omega)
        simp only [List.drop_succ_cons, cv]
        omega
  have key2 : ∀ (l m : List Int), Pos (l ++ m) → (cv l).1 ≤ (cv (l ++ m)).1 := by
    intro l m h
    have hl : Pos l := fun x hx => h x (List.mem_append_left _ hx)
    have hm : Pos m := fun x hx => h x (List.mem_append_right _ hx)
    rw [cv_app]
    simp only
    have a1 := cv_pos hl; have a2 := cv_pos hm; have a3 := cw_nn hl
    have := Int.mul_le_mul_of_nonneg_left a2.1 (show 0 ≤ (cv l).1 by omega)
    have := Int.mul_nonneg a3.1 a2.2.1
    omega
  rw [List.drop_take]
  have hpd : Pos ((cfq q).drop j) := (cfq_drop q h1).1
  refine ⟨by have := (cv_pos (hpd.take (i - j))).1; omega, ?_⟩
  have s1 := key2 (((cfq q).drop j).take (i - j)) (((cfq q).drop j).drop (i - j)) (by rw [List.take_append_drop]; exact hpd)
  rw [List.take_append_drop] at s1
  have s2 := key _ hp (j - 1)
  rw [List.drop_drop, show 1 + (j - 1) = j by omega] at s2
  omega
theorem dI_coprime {p s : Int} (hs : 0 < s) {x y : Int} (h : p * x + s * y = 1) : (Rat.divInt p s).num = p ∧ ((Rat.divInt p s).den : Int) = s := by
  obtain ⟨k, rfl⟩ : ∃ k : Nat, s = k := ⟨s.toNat, by omega⟩
  rw [Rat.divInt_ofNat]
  have hk : k ≠ 0 := by omega
  have hc : p.natAbs.gcd k = 1 := by
    have h1 := Nat.gcd_dvd_left p.natAbs k
    have h2 := Nat.gcd_dvd_right p.natAbs k
    generalize p.natAbs.gcd k = g at *
    have h3 : (g : Int) ∣ p := Int.ofNat_dvd_left.2 h1
    have h4 : (g : Int) ∣ (k : Int) := Int.ofNat_dvd.2 h2
    have h5 : (g : Int) ∣ 1 := by rw [← h]; exact Int.dvd_add (Int.dvd_trans h3 (Int.dvd_mul_right _ _)) (Int.dvd_trans h4 (Int.dvd_mul_right _ _))
    exact Nat.dvd_one.1 (Int.ofNat_dvd.1 h5)
  obtain ⟨a, b⟩ := rat_ext_mk hk hc
  exact ⟨a, by rw [b]⟩
theorem cv_bez (l : List Int) : ∃ x y, (cv l).1 * x + (cv l).2 * y = 1 := by
  have h := c_det l
  rw [sgn_pow] at h
  split at h
  · exact ⟨(cw l).2, -(cw l).1, by grind⟩
  · exact ⟨-(cw l).2, (cw l).1, by grind⟩
theorem fval_parts {l : List Int} (h : 0 < (cv l).2) : (fval l).num = (cv l).1 ∧ ((fval l).den : Int) = (cv l).2 := by
  obtain ⟨x, y, hb⟩ := cv_bez l
  exact dI_coprime h hb
/-- the simplest number of a range -/
def Best (lo hi x : Rat) : Prop := lo ≤ x ∧ x ≤ hi ∧ ∀ y, lo ≤ y → y ≤ hi → x.num.natAbs ≤ y.num.natAbs ∧ x.den ≤ y.den
theorem Best.unique {lo hi x y : Rat} (h : Best lo hi x) (k : Best lo hi y) : x = y := by
  have h1 := h.2.2 y k.1 k.2.1
  have h2 := k.2.2 x h.1 h.2.1
  have hd : x.den = y.den := by omega
  have hn : x.num = y.num ∨ x.num = -y.num := by omega
  rcases hn with hn | hn
  · exact Rat.ext hn hd
  · have e : x = -y := Rat.ext hn hd
    have h0 : lo ≤ 0 ∧ 0 ≤ hi := by
      have := h.1; have := h.2.1; have := k.1; have := k.2.1
      subst e
      constructor <;> grind
    have h3 := (h.2.2 0 h0.1 h0.2).1
    have h4 := (k.2.2 0 h0.1 h0.2).1
    simp at h3 h4
    rw [h3, h4]
noncomputable def sim (lo hi : Rat) : Rat := @dite _ (∃ x, Best lo hi x) (Classical.propDecidable _) (fun h => Classical.choose h) (fun _ => 0)
theorem sim_eq {lo hi x : Rat} (h : Best lo hi x) : sim lo hi = x := by
  unfold sim
  rw [dif_pos ⟨x, h⟩]
  exact (Classical.choose_spec (⟨x, h⟩ : ∃ x, Best lo hi x)).unique h
/-- the terms of the simplest number, as the program finds them -/
inductive Smp : Rat → Rat → List Int → Prop where
  | whole {lo hi : Rat} (h : lo + -(lo.floor : Rat) = 0) : Smp lo hi [lo.floor]
  | up {lo hi : Rat} (h : lo + -(lo.floor : Rat) ≠ 0) (h1 : 1 ≤ hi + -(lo.floor : Rat)) : Smp lo hi [lo.floor + 1]
  | step {lo hi : Rat} {T : List Int} (h : lo + -(lo.floor : Rat) ≠ 0) (h1 : hi + -(lo.floor : Rat) < 1) (t : Smp (hi + -(lo.floor : Rat))⁻¹ (lo + -(lo.floor : Rat))⁻¹ T) : Smp lo hi (lo.floor :: T)
theorem floor_bd (q : Rat) : (q.floor : Rat) ≤ q ∧ q < (q.floor : Rat) + 1 := by
  refine ⟨Rat.floor_le q, ?_⟩
  have := Rat.lt_floor_add_one q
  rw [Rat.intCast_add] at this
  exact this
theorem floor_nn {q : Rat} (h : 0 ≤ q) : 0 ≤ q.floor := Rat.le_floor_iff.2 (by simpa using h)
theorem num_ge {w : Int} {y : Rat} (h : (w : Rat) ≤ y) : w * y.den ≤ y.num := by
  have := (Rat.le_iff _ _).1 h
  simpa using this
theorem num_gt {w : Int} {y : Rat} (h : (w : Rat) < y) : w * y.den < y.num := by
  have := (Rat.lt_iff _ _).1 h
  simpa using this
theorem inv_le_inv' {a b : Rat} (ha : 0 < a) (h : a ≤ b) : b⁻¹ ≤ a⁻¹ := by
  have hb : 0 < b := by grind
  have h1 : b⁻¹ * a ≤ b⁻¹ * b := Rat.mul_le_mul_of_nonneg_left h (Rat.le_of_lt (Rat.inv_pos.2 hb))
  have h2 : b⁻¹ * b = 1 := Rat.inv_mul_cancel b (by grind)
  have h3 : a * a⁻¹ = 1 := Rat.mul_inv_cancel a (by grind)
  have h4 : b⁻¹ * a * a⁻¹ ≤ 1 * a⁻¹ := Rat.mul_le_mul_of_nonneg_right (by grind) (Rat.le_of_lt (Rat.inv_pos.2 ha))
  rw [Rat.mul_assoc, h3] at h4
  grind
theorem one_lt_inv {a : Rat} (ha : 0 < a) (h : a < 1) : 1 < a⁻¹ := by
  have h3 : a * a⁻¹ = 1 := Rat.mul_inv_cancel a (by grind)
  have h4 : a * a⁻¹ < 1 * a⁻¹ := Rat.mul_lt_mul_of_pos_right h (Rat.inv_pos.2 ha)
  grind
theorem inv_of {a b : Rat} (ha : 0 < a) : a ≤ b⁻¹ → 0 < b → b ≤ a⁻¹ := by
  intro h hb
  have := inv_le_inv' ha h
  rw [Rat.inv_inv] at this; exact this
structure SmpOk (lo hi : Rat) (T : List Int) : Prop where
  ne : T ≠ []
  tail : Pos T.tail
  pos : 1 ≤ lo → Pos T
  nn : 0 ≤ (cv T).1 ∧ 1 ≤ (cv T).2
  best : Best lo hi (fval T)
theorem Smp.ok {lo hi : Rat} {T : List Int} (h : Smp lo hi T) : 0 < lo → lo ≤ hi → SmpOk lo hi T := by
  induction h with
  | @whole lo hi h =>
    intro h0 hle
    have e : lo = (lo.floor : Rat) := by grind
    have hw : 0 < lo.floor := by rw [e] at h0; exact Rat.intCast_pos.1 h0
    refine ⟨by simp, (by intro x hx; cases hx), fun _ x hx => ?_, ⟨by simp [cv]; omega, by simp [cv]⟩, ?_⟩
    · simp at hx; omega
    · rw [fval_one]
      refine ⟨by rw [← e]; exact Rat.le_refl, by rw [← e]; exact hle, fun y h1 _ => ?_⟩
      rw [e] at h1
      have h3 := num_ge h1
      have h4 := y.den_pos
      have h5 : lo.floor * 1 ≤ lo.floor * y.den := Int.mul_le_mul_of_nonneg_left (by omega) (by omega)
      simp only [Rat.num_intCast, Rat.den_intCast]
      omega
  | @up lo hi h h1 =>
    intro h0 hle
    have hf := floor_bd lo
    have hw := floor_nn (Rat.le_of_lt h0)
    have hlt : (lo.floor : Rat) < lo := by grind
    refine ⟨by simp, (by intro x hx; cases hx), fun h2 x hx => ?_, ⟨by simp [cv]; omega, by simp [cv]⟩, ?_⟩
    · simp at hx; omega
    · rw [fval_one]
      have e : ((lo.floor + 1 : Int) : Rat) = (lo.floor : Rat) + 1 := by rw [Rat.intCast_add]; rfl
      refine ⟨by rw [e]; grind, by rw [e]; grind, fun y h1 _ => ?_⟩
      have h3 := num_gt (w := lo.floor) (y := y) (by grind)
      have h4 := y.den_pos
      have h5 : lo.floor * 1 ≤ lo.floor * y.den := Int.mul_le_mul_of_nonneg_left (by omega) (by omega)
      simp only [Rat.num_intCast, Rat.den_intCast]
      omega
  | @step lo hi T h h1 t ih =>
    intro h0 hle
    have hf := floor_bd lo
    have hw := floor_nn (Rat.le_of_lt h0)
    have hlo : 0 < lo + -(lo.floor : Rat) := by grind
    have hhi : 0 < hi + -(lo.floor : Rat) := by grind
    have hl1 := one_lt_inv hhi h1
    have i := ih (by grind) (inv_le_inv' hlo (by grind))
    have hP : Pos T := i.pos (Rat.le_of_lt hl1)
    have hc := cv_pos hP
    have hn1 : (cv T).1 ≠ 0 := by omega
    obtain ⟨x1, x2, x3⟩ := i.best
    obtain ⟨f1, f2⟩ := fval_parts (l := T) (by have := i.nn.2; omega)
    have hx0 : 0 < fval T := by grind
    have hnn : 0 ≤ (cv (lo.floor :: T)).1 ∧ 1 ≤ (cv (lo.floor :: T)).2 := by
      simp only [cv]
      have := Int.mul_nonneg hw (show 0 ≤ (cv T).1 by omega)
      have := i.nn.2
      omega
    refine ⟨by simp, by rw [List.tail_cons]; exact hP, fun h2 x hx => ?_, hnn, ?_⟩
    · rcases List.mem_cons.1 hx with rfl | hx
      · exact Rat.le_floor_iff.2 (by simpa using h2)
      · exact hP x hx
    · obtain ⟨g1, g2⟩ := fval_parts (l := lo.floor :: T) (by omega)
      rw [Best, g1]
      rw [fval_cons _ hn1]
      have y1 : (fval T)⁻¹ ≤ hi + -(lo.floor : Rat) := by
        have := inv_le_inv' (Rat.inv_pos.2 hhi) x1
        rw [Rat.inv_inv] at this; exact this
      have y2 : lo + -(lo.floor : Rat) ≤ (fval T)⁻¹ := inv_of (Rat.inv_pos.2 hlo |> fun _ => hx0) x2 hlo
      refine ⟨by grind, by grind, fun y h2 h3 => ?_⟩
      rw [← fval_cons _ hn1]
      have hfl : y.floor = lo.floor := by
        apply Int.le_antisymm
        · have : y < ((lo.floor + 1 : Int) : Rat) := by rw [Rat.intCast_add]; show y < (lo.floor : Rat) + 1; grind
          have := Rat.floor_lt_iff.2 this
          omega
        · exact Rat.le_floor_iff.2 (by grind)
      have hy0 : 0 < y + -(lo.floor : Rat) := by grind
      obtain ⟨p1, p2⟩ := frac_part y
      rw [hfl] at p1 p2
      have hr : y.num % (y.den : Int) ≠ 0 := fun e => by
        rw [e] at p1
        have := Rat.num_eq_zero.1 p1
        grind
      have hr0 := Int.emod_nonneg y.num (show (y.den : Int) ≠ 0 by have := y.den_nz; omega)
      have hd := x3 (y + -(lo.floor : Rat))⁻¹ (inv_le_inv' hy0 (by grind)) (inv_le_inv' hlo (by grind))
      rw [f1, Rat.num_inv, Rat.den_inv, p1, p2, if_neg hr, Int.sign_eq_one_of_pos (by omega), Int.one_mul] at hd
      have hfd : y.num / (y.den : Int) = lo.floor := by rw [← hfl, Rat.floor_def]
      have hm := Int.mul_ediv_add_emod y.num y.den
      rw [hfd] at hm
      simp only [cv] at g2 hnn ⊢
      have q1 : (cv T).1 ≤ y.den := by omega
      have q2 := Int.mul_le_mul_of_nonneg_left q1 hw
      have q3 : (cv T).2 ≤ y.num % (y.den : Int) := by omega
      have e3 : (y.den : Int) * lo.floor = lo.floor * y.den := Int.mul_comm _ _
      omega
theorem Smp.fok {lo hi : Rat} {T : List Int} (h : SmpOk lo hi T) : fok T := by
  refine ⟨h.ne, fun j hj _ => ?_⟩
  rw [drop_tail _ _ hj]
  have := (cv_pos (h.tail.drop (j - 1))).1
  omega
theorem Smp.size {lo hi : Rat} {T : List Int} (h : SmpOk lo hi T) (h0 : 0 < lo) (hl : lo ≤ hi) (j : Nat) : 0 ≤ (cv (T.drop j)).1 ∧ ((cv (T.drop j)).1 ≤ lo.num ∨ (cv (T.drop j)).1 ≤ lo.den) := by
  obtain ⟨g1, g2⟩ := fval_parts (l := T) (by have := h.nn; omega)
  have hb := h.best.2.2 lo Rat.le_refl hl
  have hn : 0 < lo.num := by
    have := (Rat.lt_iff _ _).1 h0
    simpa using this
  rcases Nat.eq_zero_or_pos j with rfl | hj
  · rw [List.drop_zero]
    have := h.nn
    rw [g1] at hb
    exact ⟨by omega, .inl (by omega)⟩
  · rw [drop_tail _ _ hj]
    have hp := cv_pos (h.tail.drop (j - 1))
    refine ⟨by omega, .inr ?_⟩
    have key : ∀ (l : List Int), Pos l → ∀ k, (cv (l.drop k)).1 ≤ (cv l).1 := by
      intro l
      induction l with
      | nil => intro _ k; simp
      | cons a l ih =>
        intro h k
        cases k with
        | zero => simp
        | succ k =>
          obtain ⟨ha, hl⟩ := h.tail
          have := ih hl k
          have h6 := cv_pos hl
          have := Int.mul_le_mul_of_nonneg_right ha (show 0 ≤ (cv l).1 by omega)
          simp only [List.drop_succ_cons, cv]
          omega
    have k1 := key _ h.tail (j - 1)
    have k2 : (cv T.tail).1 = (cv T).2 := by
      cases T with
      | nil => exact absurd rfl h.ne
      | cons a l => rfl
    omega
/-- the range of the greatest and the least -/
theorem best_zero {lo hi : Rat} (h1 : lo ≤ 0) (h2 : 0 ≤ hi) : Best lo hi 0 := ⟨h1, h2, fun y _ _ => ⟨by simp, y.den_pos⟩⟩
theorem best_neg {lo hi x : Rat} (h : Best lo hi x) : Best (-hi) (-lo) (-x) := by
  refine ⟨Rat.neg_le_neg h.2.1, Rat.neg_le_neg h.1, fun y h1 h2 => ?_⟩
  have := h.2.2 (-y) (by grind) (by grind)
  simpa using this
/-- greatest lower and least upper number with a denominator that is permitted -/
def IsBelow (a : Rat) (M : Int) (x : Rat) : Prop := x ≤ a ∧ (x.den : Int) ≤ M ∧ ∀ y, y ≤ a → (y.den : Int) ≤ M → y ≤ x
def IsAbove (a : Rat) (M : Int) (x : Rat) : Prop := a ≤ x ∧ (x.den : Int) ≤ M ∧ ∀ y, a ≤ y → (y.den : Int) ≤ M → x ≤ y
theorem IsBelow.unique {a x y : Rat} {M : Int} (h : IsBelow a M x) (k : IsBelow a M y) : x = y := Rat.le_antisymm (k.2.2 x h.1 h.2.1) (h.2.2 y k.1 k.2.1)
theorem IsAbove.unique {a x y : Rat} {M : Int} (h : IsAbove a M x) (k : IsAbove a M y) : x = y := Rat.le_antisymm (h.2.2 y k.1 k.2.1) (k.2.2 x h.1 h.2.1)
theorem IsBelow.neg {a x : Rat} {M : Int} (h : IsBelow (-a) M x) : IsAbove a M (-x) := by
  refine ⟨by have := h.1; grind, h.2.1, fun y h1 h2 => ?_⟩
  have := h.2.2 (-y) (by grind) h2
  grind
noncomputable def bel (a : Rat) (M : Int) : Rat := @dite _ (∃ x, IsBelow a M x) (Classical.propDecidable _) (fun h => Classical.choose h) (fun _ => 0)
noncomputable def abv (a : Rat) (M : Int) : Rat := @dite _ (∃ x, IsAbove a M x) (Classical.propDecidable _) (fun h => Classical.choose h) (fun _ => 0)
theorem bel_eq {a x : Rat} {M : Int} (h : IsBelow a M x) : bel a M = x := by
  unfold bel; rw [dif_pos ⟨x, h⟩]; exact (Classical.choose_spec (⟨x, h⟩ : ∃ x, IsBelow a M x)).unique h
theorem abv_eq {a x : Rat} {M : Int} (h : IsAbove a M x) : abv a M = x := by
  unfold abv; rw [dif_pos ⟨x, h⟩]; exact (Classical.choose_spec (⟨x, h⟩ : ∃ x, IsAbove a M x)).unique h
theorem below_self {a : Rat} {M : Int} (h : (a.den : Int) ≤ M) : IsBelow a M a ∧ IsAbove a M a := ⟨⟨Rat.le_refl, h, fun _ h _ => h⟩, ⟨Rat.le_refl, h, fun _ h _ => h⟩⟩
theorem dI_den_le {p s : Int} (hs : 0 < s) : ((Rat.divInt p s).den : Int) ≤ s := by
  obtain ⟨k, rfl⟩ : ∃ k : Nat, s = k := ⟨s.toNat, by omega⟩
  rw [Rat.divInt_ofNat, Rat.den_mkRat]
  split
  · omega
  · have := Nat.div_le_self k (k.gcd p.natAbs); omega
/-- between neighbors there are great denominators alone -/
theorem between {p s p' s' : Int} (hs : 0 < s) (hs' : 0 < s') (hd : p' * s - p * s' = 1) {y : Rat} (h1 : Rat.divInt p s < y) (h2 : y < Rat.divInt p' s') : s + s' ≤ y.den := by
  have a1 := (dI_lt hs y).1 h1
  have a2 := (lt_dI hs' y).1 h2
  have b1 : 1 ≤ y.num * s - p * y.den := by omega
  have b2 : 1 ≤ p' * y.den - y.num * s' := by omega
  have e : (y.den : Int) = s * (p' * y.den - y.num * s') + s' * (y.num * s - p * y.den) := by
    have : (y.den : Int) = y.den * (p' * s - p * s') := by rw [hd, Int.mul_one]
    grind
  have c1 := Int.mul_le_mul_of_nonneg_left b2 (Int.le_of_lt hs)
  have c2 := Int.mul_le_mul_of_nonneg_left b1 (Int.le_of_lt hs')
  omega
theorem neighbors {a : Rat} {M p s p' s' : Int} (hs : 0 < s) (hs' : 0 < s') (hd : p' * s - p * s' = 1) (h1 : Rat.divInt p s < a) (h2 : a < Rat.divInt p' s') (m1 : s ≤ M) (m2 : s' ≤ M) (m3 : M < s + s') : IsBelow a M (Rat.divInt p s) ∧ IsAbove a M (Rat.divInt p' s') := by
  refine ⟨⟨Rat.le_of_lt h1, Int.le_trans (dI_den_le hs) m1, fun y hy hM => ?_⟩, ⟨Rat.le_of_lt h2, Int.le_trans (dI_den_le hs') m2, fun y hy hM => ?_⟩⟩
  · refine Rat.not_lt.1 fun hlt => ?_
    have := between hs hs' hd hlt (by grind)
    omega
  · refine Rat.not_lt.1 fun hlt => ?_
    have := between hs hs' hd (by grind) hlt
    omega
theorem cross_le {p s n e : Int} {d : Nat} (hd : 0 < d) (h : p * d - n * s = e) (he : -(d : Int) ≤ e ∧ e ≤ d) (hs : 0 ≤ s ∧ s ≤ d) : p.natAbs ≤ n.natAbs + 1 := by
  have f1 : n * s ≤ (n.natAbs : Int) * d := Int.le_trans (Int.mul_le_mul_of_nonneg_right (by omega) hs.1) (Int.mul_le_mul_of_nonneg_left hs.2 (by omega))
  have f2 : -((n.natAbs : Int) * d) ≤ n * s := by
    have := Int.le_trans (Int.mul_le_mul_of_nonneg_right (show -n ≤ (n.natAbs : Int) by omega) hs.1) (Int.mul_le_mul_of_nonneg_left hs.2 (show 0 ≤ (n.natAbs : Int) by omega))
    have e2 : -n * s = -(n * s) := Int.neg_mul _ _
    omega
  have g1 : p * d ≤ ((n.natAbs : Int) + 1) * d := by rw [Int.add_mul]; omega
  have g2 : -p * d ≤ ((n.natAbs : Int) + 1) * d := by rw [Int.add_mul, Int.neg_mul]; omega
  have k1 := Int.le_of_mul_le_mul_right g1 (by omega)
  have k2 := Int.le_of_mul_le_mul_right g2 (by omega)
  omega
/-- the break of the search for neighbors -/
theorem nbr_ok (q : Rat) {i : Nat} (h1 : 1 ≤ i) (hi : i < (cfq q).length) {M r : Int} (hf : (cv ((cfq q).take i)).2 ≤ M) (hr : r = (M - (cw ((cfq q).take i)).2) / (cv ((cfq q).take i)).2) (hw : (cw ((cfq q).take i)).2 ≤ M) (hlt : r < (cfq q)[i]) :
    let p := (cv ((cfq q).take i)).1
    let s := (cv ((cfq q).take i)).2
    let p' := (cw ((cfq q).take i)).1 + r * (cv ((cfq q).take i)).1
    let s' := (cw ((cfq q).take i)).2 + r * (cv ((cfq q).take i)).2
    (0 ≤ r ∧ 1 ≤ s' ∧ s' ≤ q.den ∧ p'.natAbs ≤ q.num.natAbs + 1) ∧
    (i % 2 = 1 → IsBelow q M (Rat.divInt p s) ∧ IsAbove q M (Rat.divInt p' s')) ∧ (i % 2 = 0 → IsBelow q M (Rat.divInt p' s') ∧ IsAbove q M (Rat.divInt p s)) := by
  have h := part q h1 (Nat.le_of_lt hi)
  have ed : (cfq q).drop i = (cfq q)[i] :: (cfq q).drop (i + 1) := List.drop_eq_getElem_cons hi
  have hu : (cv ((cfq q).drop i)).1 = (cfq q)[i] * (cv ((cfq q).drop (i + 1))).1 + (cv ((cfq q).drop (i + 1))).2 := by rw [ed]; rfl
  have hv : (cv ((cfq q).drop i)).2 = (cv ((cfq q).drop (i + 1))).1 := by rw [ed]; rfl
  have hpd := cv_pos (cfq_drop q (k := i + 1) (by omega)).1
  have hx : 1 ≤ (cfq q)[i] := (cfq_drop q (k := i) (by omega)).1 _ (by rw [ed]; exact List.mem_cons_self)
  have hsl := h.s_le
  generalize (cfq q)[i] = t at *
  generalize (cv ((cfq q).take i)).1 = p at *
  generalize (cv ((cfq q).take i)).2 = s at *
  generalize (cw ((cfq q).take i)).1 = p' at *
  generalize (cw ((cfq q).take i)).2 = s' at *
  generalize (cv ((cfq q).drop i)).1 = u at *
  generalize (cv ((cfq q).drop i)).2 = v at *
  generalize (cv ((cfq q).drop (i + 1))).1 = u' at *
  generalize (cv ((cfq q).drop (i + 1))).2 = v' at *
  subst hv
  obtain ⟨hn, hde, hdet, hs1, hs0, hu1, hv0, hvu⟩ := h
  have hr0 : 0 ≤ r := by rw [hr]; exact Int.ediv_nonneg (by omega) (by omega)
  have hm := Int.mul_ediv_add_emod (M - s') s
  have hm1 := Int.emod_nonneg (M - s') (show s ≠ 0 by omega)
  have hm2 := Int.emod_lt_of_pos (M - s') (show 0 < s by omega)
  rw [← hr] at hm
  have esr : s * r = r * s := Int.mul_comm _ _
  have hs'M : s' + r * s ≤ M := by omega
  have hs'M2 : M < s' + r * s + s := by omega
  -- the second one has a denominator of at least 1
  have hs'1 : 1 ≤ s' + r * s := by
    rcases Int.le_iff_lt_or_eq.1 hr0 with hp | hp
    · have := Int.mul_le_mul_of_nonneg_right (show 1 ≤ r by omega) (show 0 ≤ s by omega)
      omega
    · rw [← hp] at hs'M2
      have : s' + 0 * s = s' := by simp
      rw [this] at hs'M2
      rw [← hp, this]; omega
  -- q between the two
  have ht : 1 ≤ t - r := by omega
  have c1 : p * q.den - q.num * s = v * (-1) ^ i := by rw [hn, hde, ← hdet]; grind
  have c2 : (p' + r * p) * q.den - q.num * (s' + r * s) = (r * v - u) * (-1) ^ i := by rw [hn, hde, ← hdet]; grind
  have hneg : r * v - u ≤ -1 ∧ -u ≤ r * v - u := by
    have a1 := Int.mul_le_mul_of_nonneg_right ht (show 0 ≤ v by omega)
    have a2 : (t - r) * v = t * v - r * v := Int.sub_mul _ _ _
    have a3 := Int.mul_nonneg hr0 (show 0 ≤ v by omega)
    have := hpd.1
    have := hpd.2.1
    omega
  have hud : u ≤ q.den := by
    have a1 := Int.mul_le_mul_of_nonneg_right hs1 (show 0 ≤ u by omega)
    have a2 := Int.mul_nonneg hs0 hv0
    omega
  have hsd : s' + r * s ≤ q.den := by
    have a1 : r * s ≤ (t - 1) * s := Int.mul_le_mul_of_nonneg_right (by omega) (by omega)
    have a2 : (s' + t * s) * 1 ≤ (s' + t * s) * v := Int.mul_le_mul_of_nonneg_left hpd.1 (by
      have := Int.mul_nonneg (show 0 ≤ t by omega) (show 0 ≤ s by omega); omega)
    have a3 : (q.den : Int) = (s' + t * s) * v + s * v' := by rw [hde, hu]; grind
    have a4 := Int.mul_nonneg (show 0 ≤ s by omega) hpd.2.1
    have a5 : (t - 1) * s = t * s - s := by rw [Int.sub_mul, Int.one_mul]
    omega
  rw [sgn_pow] at c1 c2 hdet
  refine ⟨⟨hr0, hs'1, hsd, cross_le q.den_pos c2 (by split <;> omega) ⟨by omega, hsd⟩⟩, fun h0 => ?_, fun h0 => ?_⟩
  · rw [if_neg (by omega)] at c1 c2 hdet
    exact neighbors (by omega) (by omega) (by grind) ((dI_lt (by omega) q).2 (by omega)) ((lt_dI (by omega) q).2 (by omega)) hf hs'M (by omega)
  · rw [if_pos (by omega)] at c1 c2 hdet
    exact neighbors (by omega) (by omega) (by grind) ((dI_lt (by omega) q).2 (by omega)) ((lt_dI (by omega) q).2 (by omega)) hs'M hf (by omega)
theorem mul_den' (z : Rat) : z * ((z.den : Int) : Rat) = (z.num : Rat) := by
  have hd : ((z.den : Int) : Rat) ≠ 0 := fun e => z.den_nz (by have := Rat.intCast_eq_zero_iff.1 e; omega)
  have h : z = (z.num : Rat) / ((z.den : Int) : Rat) := by rw [← Rat.divInt_eq_div, Rat.num_divInt_den]
  generalize ((z.den : Int) : Rat) = D at *
  generalize (z.num : Rat) = N at *
  rw [h]; grind
theorem dI_le {n d : Int} (hd : 0 < d) (q : Rat) : Rat.divInt n d ≤ q ↔ (n : Rat) ≤ q * (d : Rat) := by
  have hd' : (0 : Rat) < (d : Rat) := Rat.intCast_pos.2 hd
  rw [Rat.divInt_eq_div, ← Rat.not_lt, ← Rat.not_lt, Rat.lt_div_iff hd']
theorem le_dI' {n d : Int} (hd : 0 < d) (q : Rat) : q ≤ Rat.divInt n d ↔ q * (d : Rat) ≤ (n : Rat) := by
  have hd' : (0 : Rat) < (d : Rat) := Rat.intCast_pos.2 hd
  rw [Rat.divInt_eq_div, ← Rat.not_lt, ← Rat.not_lt, Rat.div_lt_iff hd']
/-- an integer between the bounds times d is a number of the range -/
theorem ss_in {lo hi : Rat} {n d : Int} (hd : 0 < d) (h1 : (lo * (d : Rat)).ceil ≤ n) (h2 : n ≤ (hi * (d : Rat)).floor) : lo ≤ Rat.divInt n d ∧ Rat.divInt n d ≤ hi := by
  rw [le_dI' hd, dI_le hd]
  exact ⟨Rat.ceil_le_iff.1 h1, Rat.le_floor_iff.1 h2⟩
theorem ss1 {lo hi x : Rat} (hb : Best lo hi x) {d : Int} (hd : 0 < d) (h : (lo * (d : Rat)).ceil ≤ (hi * (d : Rat)).floor) : (x.den : Int) ≤ d := by
  obtain ⟨a, b⟩ := ss_in hd (Int.le_refl _) h
  have := (hb.2.2 _ a b).2
  have := dI_den_le (p := (lo * (d : Rat)).ceil) hd
  omega
theorem ss2 {lo hi x : Rat} (hb : Best lo hi x) : (lo * ((x.den : Int) : Rat)).ceil ≤ x.num ∧ x.num ≤ (hi * ((x.den : Int) : Rat)).floor := by
  have hd : (0 : Rat) ≤ ((x.den : Int) : Rat) := Rat.intCast_nonneg.2 (by omega)
  have e := mul_den' x
  refine ⟨Rat.ceil_le_iff.2 ?_, Rat.le_floor_iff.2 ?_⟩
  · rw [← e]; exact Rat.mul_le_mul_of_nonneg_right hb.1 hd
  · rw [← e]; exact Rat.mul_le_mul_of_nonneg_right hb.2.1 hd
/-- the integer of least size between low and high -/
def pick0 (low high : Int) : Int := if low < 0 ∧ 0 ≤ high then 0 else if high < 0 then high else low
theorem ss3 {lo hi x : Rat} (hb : Best lo hi x) : Rat.divInt (pick0 (lo * ((x.den : Int) : Rat)).ceil (hi * ((x.den : Int) : Rat)).floor) x.den = x := by
  obtain ⟨a, b⟩ := ss2 hb
  have hd : (0 : Int) < x.den := by have := x.den_pos; omega
  generalize hl : (lo * ((x.den : Int) : Rat)).ceil = low at *
  generalize hh : (hi * ((x.den : Int) : Rat)).floor = high at *
  have hp : low ≤ pick0 low high ∧ pick0 low high ≤ high ∧ (pick0 low high).natAbs ≤ x.num.natAbs := by
    unfold pick0; split
    · omega
    · split <;> omega
  obtain ⟨c, e⟩ := ss_in (lo := lo) (hi := hi) (n := pick0 low high) hd (by rw [hl]; exact hp.1) (by rw [hh]; exact hp.2.1)
  have hy := hb.2.2 _ c e
  have hnum : (Rat.divInt (pick0 low high) x.den).num.natAbs ≤ (pick0 low high).natAbs := by
    rw [Rat.divInt_ofNat, Rat.num_mkRat, if_neg x.den_nz]
    exact Int.natAbs_ediv_le_natAbs _ _
  have h6 : (pick0 low high).natAbs = x.num.natAbs := by omega
  have h7 : pick0 low high = x.num ∨ (pick0 low high = -x.num ∧ x.num ≠ 0) := by omega
  rcases h7 with h7 | ⟨h7, h8⟩
  · rw [h7, Rat.num_divInt_den]
  · exfalso
    unfold pick0 at h7
    split at h7
    · omega
    · split at h7 <;> omega
end Gm
