/- Contracts of package natural: the long division, the division in full. -/
import Derived.Test.YtkpchamgghhihaaNatJ
namespace Go.Proofs.Ytkpchamgghhihaa
open Go.RowKit Gm

/-- the shift that brings the top bit of the top limb to its place -/
theorem norm_top {x s : Nat} (hx : x < Ba) (h0 : x ≠ 0) (hs : s = 32 - nb x) : s < 32 ∧ Ba ≤ 2 * (x * 2 ^ s) ∧ x * 2 ^ s < Ba := by
  have h1 := nb_lt x
  have h2 := nb_ge h0
  have h3 : nb x ≤ 32 := nb_le hx
  have h4 : 1 ≤ nb x := by
    rcases Nat.eq_zero_or_pos (nb x) with h | h
    · exact absurd (nb_eq_zero.1 h) h0
    · exact h
  have e : Ba = 2 ^ nb x * 2 ^ s := by rw [← Nat.pow_add, hs, show nb x + (32 - nb x) = 32 by omega]; rfl
  have e2 : 2 ^ nb x = 2 * 2 ^ (nb x - 1) := by rw [Nat.mul_comm, ← Nat.pow_succ, show (nb x - 1).succ = nb x by omega]
  refine ⟨by omega, ?_, ?_⟩
  · rw [e, e2, Nat.mul_assoc]
    exact Nat.mul_le_mul_left _ (Nat.mul_le_mul_right _ h2)
  · rw [e]
    exact Nat.mul_lt_mul_of_pos_right h1 (Nat.pow_pos (by decide))
/-- the normed divisor: its own length, its top limb -/
theorem norm_row {bs ws : List Nat} {m s : Nat} (hb : Lb bs) (hw : Lb ws) (hl : bs.length = m + 2) (hwl : ws.length = m + 3) (hv : val ws = val bs * 2 ^ s) (h0 : bs[m + 1]?.getD 0 ≠ 0) (hs : s = 32 - nb (bs[m + 1]?.getD 0)) :
    val (ws.take (m + 2)) = val bs * 2 ^ s ∧ Ba ≤ 2 * (ws.take (m + 2))[m + 1]?.getD 0 := by
  obtain ⟨h32, hn1, hn2⟩ := norm_top (hb.get (m + 1)) h0 hs
  have hsp := val_split (xs := bs) (i := m + 1) (by omega)
  rw [List.drop_of_length_le (show bs.length ≤ m + 1 + 1 by omega)] at hsp
  simp only [val, Nat.mul_zero, Nat.add_zero] at hsp
  have hlow := val_take_lt hb (m + 1)
  have hxb := hb.get (m + 1)
  have hlt : val ws < Ba ^ (m + 2) := by
    rw [hv, hsp]
    generalize bs[m + 1]?.getD 0 = x at *
    have h1 : (val (bs.take (m + 1)) + Ba ^ (m + 1) * x) * 2 ^ s < Ba ^ (m + 1) * (x + 1) * 2 ^ s := by
      apply Nat.mul_lt_mul_of_pos_right _ (Nat.pow_pos (by decide))
      rw [Nat.mul_add, Nat.mul_one]; omega
    have h2 : (x + 1) * 2 ^ s ≤ Ba := by
      have h3 := nb_lt x
      have h4 : nb x ≤ 32 := nb_le hxb
      have e : Ba = 2 ^ nb x * 2 ^ s := by rw [← Nat.pow_add, hs, show nb x + (32 - nb x) = 32 by omega]; rfl
      rw [e]; exact Nat.mul_le_mul_right _ h3
    have h3 : Ba ^ (m + 1) * (x + 1) * 2 ^ s ≤ Ba ^ (m + 1) * Ba := by rw [Nat.mul_assoc]; exact Nat.mul_le_mul_left _ h2
    rw [Nat.pow_succ Ba (m + 1)]
    omega
  have hz := zero_of_val hlt
  have htk := val_take_of_zero hz
  refine ⟨by rw [htk, hv], ?_⟩
  rw [List.getElem?_take_of_lt (by omega)]
  have hsw := val_split (xs := ws) (i := m + 1) (by omega)
  have hd : val (ws.drop (m + 1 + 1)) = 0 := by
    have e := val_take_of_zero (zs := ws.drop (m + 1 + 1)) (m := 0) (fun k _ => by rw [List.getElem?_drop]; exact hz _ (by omega))
    rw [← e]; rfl
  rw [hd] at hsw
  simp only [Nat.mul_zero, Nat.add_zero] at hsw
  have hwlow := val_take_lt hw (m + 1)
  generalize bs[m + 1]?.getD 0 = x at *
  generalize ws[m + 1]?.getD 0 = y at *
  rcases Nat.lt_or_ge y (x * 2 ^ s) with h | h
  · exfalso
    have h5 : Ba ^ (m + 1) * (y + 1) ≤ Ba ^ (m + 1) * (x * 2 ^ s) := Nat.mul_le_mul_left _ h
    rw [Nat.mul_add, Nat.mul_one] at h5
    have h6 : Ba ^ (m + 1) * (x * 2 ^ s) ≤ val bs * 2 ^ s := by rw [hsp, Nat.add_mul, ← Nat.mul_assoc]; omega
    omega
  · omega

/-- what the loop of the long division keeps, before digit j - 1 -/
structure Lg (A V : Nat) (zs qs : List Nat) (j : Nat) : Prop where
  eq : A = val zs + V * val qs
  lt : val zs < V * Ba ^ j
  low : ∀ k, k < j → qs[k]?.getD 0 = 0
theorem Lg.start {A V d : Nat} {zs qs : List Nat} (h : val zs = A) (h0 : ∀ k : Nat, qs[k]?.getD 0 = 0) (hq : val qs = 0) (hlt : A < V * Ba ^ d) : Lg A V zs qs d :=
  ⟨by rw [h, hq]; simp, by rw [h]; exact hlt, fun k _ => h0 k⟩
theorem Lg.step {A V Q j : Nat} {zs ys qs : List Nat} (h : Lg A V zs qs (j + 1)) (hj : j < qs.length) (hy : val ys + Ba ^ j * (Q * V) = val zs) (hl : val ys < V * Ba ^ j) : Lg A V ys (qs.set j Q) j := by
  refine ⟨?_, hl, fun k hk => by rw [get_set_ne _ (by omega)]; exact h.low k (by omega)⟩
  have e := val_set Q hj
  rw [h.low j (by omega), Nat.mul_zero, Nat.add_zero] at e
  rw [h.eq, ← hy, e]
  grind
theorem Lg.finish {A V : Nat} {zs qs : List Nat} (h : Lg A V zs qs 0) : val qs = A / V ∧ val zs = A % V := by
  have h1 := h.lt
  have h2 := h.eq
  simp at h1
  have hV : 0 < V := by
    rcases Nat.eq_zero_or_pos V with h3 | h3
    · subst h3; simp at h1
    · exact h3
  have h2 := (Nat.div_mod_unique (a := A) (c := val zs) (d := val qs) hV).2 ⟨by rw [h.eq], h1⟩
  exact ⟨h2.1.symm, h2.2.symm⟩
theorem lg_size {us : List Nat} {m s : Nat} (ha : Lb us) (hs : s < 32) (hm : m + 2 ≤ us.length) {V : Nat} (hV : Ba ^ (m + 2) ≤ 2 * V) : val us * 2 ^ s < V * Ba ^ (us.length + 1 - (m + 2)) := by
  have h1 := val_lt ha
  have h2 : 2 ^ s * 2 ≤ Ba := by
    have : 2 ^ (s + 1) ≤ 2 ^ 32 := Nat.pow_le_pow_right (by decide) (by omega)
    rw [Nat.pow_succ] at this
    exact this
  have h3 : val us * 2 ^ s * 2 < Ba ^ (us.length + 1) := by
    rw [Nat.mul_assoc, Nat.pow_succ]
    exact Nat.mul_lt_mul_of_lt_of_le h1 h2 Ba_pos
  have h4 : Ba ^ (us.length + 1) = Ba ^ (m + 2) * Ba ^ (us.length + 1 - (m + 2)) := by rw [← Nat.pow_add]; congr 1; omega
  have h5 : Ba ^ (m + 2) * Ba ^ (us.length + 1 - (m + 2)) ≤ 2 * V * Ba ^ (us.length + 1 - (m + 2)) := Nat.mul_le_mul_right _ hV
  rw [Nat.mul_assoc] at h5
  omega
theorem top_half {vs : List Nat} {m : Nat} (hl : vs.length = m + 2) (h : Ba ≤ 2 * vs[m + 1]?.getD 0) : Ba ^ (m + 2) ≤ 2 * val vs := by
  have hs := val_split (xs := vs) (i := m + 1) (by omega)
  rw [Nat.pow_succ, hs]
  have h1 : Ba ^ (m + 1) * Ba ≤ Ba ^ (m + 1) * (2 * vs[m + 1]?.getD 0) := Nat.mul_le_mul_left _ h
  have h2 : Ba ^ (m + 1) * vs[m + 1]?.getD 0 ≤ Ba ^ (m + 1) * (vs[m + 1]?.getD 0 + Ba * val (vs.drop (m + 1 + 1))) := Nat.mul_le_mul_left _ (Nat.le_add_right _ _)
  have e : Ba ^ (m + 1) * (2 * vs[m + 1]?.getD 0) = 2 * (Ba ^ (m + 1) * vs[m + 1]?.getD 0) := by grind
  omega

theorem shifted_k (A : Option Addr) (us : List Nat) (c s n : Nat) (w : World) (ha : Lim w A c us) (hn : us.length = n) (hs : n < 70368744177664) (h32 : s < 32) :
    Calls Try.prog 71 #[.slice A n c, .int .i64 (s : Int)] w (RetRow w (n + 1) (val us * 2 ^ s)) := by
  subst hn; exact shifted_c A us c s w ha hs h32
theorem ShiftRight_k (A : Option Addr) (xs : List Nat) (c n l : Nat) (w : World) (ha : Lim w A c xs) (hl : xs.length = l) (hs : l ≤ 70368744177664) (hn : n ≤ 9223372036854775807) :
    Calls Try.prog 17 #[.slice A l c, .int .i64 (n : Int)] w (RetNatOk w (val xs / 2 ^ n)) := by
  subst hl; exact ShiftRight_c A xs c n w ha hs hn
theorem cut_k (A : Option Addr) (xs : List Nat) (c k n : Nat) (w : World) (h : Lim w A c xs) (hk : xs.length = k) (hv : val xs = n) :
    Calls Try.prog 65 #[.slice A k c] w fun e w' => e = .returned (.slice A (limbs n).length c) ∧ w = w' := by
  subst hk hv; exact cut_c A xs c w h
theorem Row.lim {w : World} {g : Nat} {zs : List Nat} (h : Row w g zs) (hz : Lb zs) (hm : zs.length ≤ 9223372036854775807) : Lim w (some ⟨g, 0, none⟩) zs.length zs := (h.own hz (Nat.zero_le _) hm).lim

set_option maxHeartbeats 4000000 in
set_option maxRecDepth 100000 in
theorem divideLong_c (A B : Option Addr) (us bs : List Nat) (m c d : Nat) (w : World) (ha : Lim w A c us) (hb : Lim w B d bs) (hl : bs.length = m + 2) (hle : m + 2 ≤ us.length) (hs : us.length < 70368744177664) (h0 : bs[m + 1]?.getD 0 ≠ 0) :
    Calls Try.prog 70 #[.slice A us.length c, .slice B (m + 2) d] w (RetTwo w (val us / val bs) (val us % val bs)) := by
  obtain ⟨b, o, rfl, hbl, hc⟩ := hb.at_ (by omega)
  have hx := hc (m + 1) (by omega)
  have bx : bs[m + 1]?.getD 0 < 4294967296 := hb.lb.get (m + 1)
  obtain ⟨x, ex⟩ : ∃ x, bs[m + 1]?.getD 0 = x := ⟨_, rfl⟩
  obtain ⟨s, es⟩ : ∃ s, 32 - nb x = s := ⟨_, rfl⟩
  rw [ex] at hx bx
  have hnt := norm_top (x := x) (s := s) bx (by rw [← ex]; exact h0) es.symm
  have hnr := fun ws h1 h2 h3 => @norm_row bs ws m s hb.lb h1 hl h2 h3 h0 (by rw [ex]; exact es.symm)
  obtain ⟨h32, _, _⟩ := hnt
  obtain ⟨dg, hdg⟩ : ∃ dg, us.length + 1 - (m + 2) = dg := ⟨_, rfl⟩
  have hdg' : (us.length : Int) + 1 - ((m : Int) + 2) = (dg : Int) := by omega
  have hsum : us.length = m + 1 + dg := by omega
  have hmk := mk_run (↑dg) dg rfl (by omega)
  have HNR := Lib.hid hnr
  have HL := Lib.hid hl
  have HS := Lib.hid hsum
  have ES := Lib.hid es
  have HDG := Lib.hid hdg
  have hdg1 : 1 ≤ dg := by omega
  clear hnr hl hsum ex h0 hc es hdg
  go_enter Try.func70, Try.ntmps70
  go_wp2_with fail
  refine (LeadingZeros32_n x _ bx).mono ?_
  rintro e w' ⟨rfl, rfl⟩
  rw [ES.out]
  go_wp2_with fail
  refine (shifted_k _ bs d s (m + 2) w hb HL.out (by omega) h32).mono ?_
  rintro e w1 ⟨ws, rfl, hwl, hwb, hwv, hwr, b1⟩
  go_wp2_with fail
  refine (shifted_k _ us c s us.length w1 (ha.below b1) rfl hs h32).mono ?_
  rintro e w2 ⟨zs, rfl, hzl, hzb, hzv, hzr, b2⟩
  obtain ⟨hV, htop⟩ := HNR.out ws hwb hwl hwv
  have hvl : (ws.take (m + 2)).length = m + 2 := by rw [List.length_take, hwl]; omega
  have hhalf := top_half hvl htop
  have hsz := lg_size ha.lb h32 hle hhalf
  rw [HDG.out] at hsz
  obtain ⟨vs, evs⟩ : ∃ vs, ws.take (m + 2) = vs := ⟨_, rfl⟩
  rw [evs] at hV htop hvl hsz
  have hlbv : Lb vs := by rw [← evs]; exact hwb.take _
  have g12 : w.heap.size < w1.heap.size := hwr.lt
  have g23 : w1.heap.size < w2.heap.size := hzr.lt
  have hLim : ∀ W, Row W w.heap.size ws → Lim W (some ⟨w.heap.size, 0, none⟩) (m + 2 + 1) vs := fun W hW => by
    have := (hW.lim hwb (by rw [hwl]; omega)).take (m + 2)
    rw [evs, hwl] at this
    exact this
  have hstart : Lg (val us * 2 ^ s) (val vs) zs (zeros dg) dg := Lg.start hzv (fun k => zeros_get _ _) (zeros_val _) hsz
  have hbw : Below w.heap.size w w2 := b1.trans (b2.mono b1.size)
  have hwr2 : Row w2 w.heap.size ws := hwr.below b2 g12
  have HV := Lib.hid hV
  have HTOP := Lib.hid htop
  have HVL := Lib.hid hvl
  have HLIM := Lib.hid hLim
  have HST := Lib.hid hstart
  have HZL := Lib.hid hzl
  clear hV htop hvl hLim hstart hzl hwv hzv hwl evs hhalf hsz HNR
  go_wp2_with fail
  go_loopw [36] (fun i wr => ∃ (k j : Nat) (ys qs : List Nat), k + j = dg ∧ i = .int .i64 k ∧ ys.length = us.length + 1 ∧ qs.length = dg ∧ Lb ys ∧ Lb qs ∧ Row wr w.heap.size ws ∧ Row wr w1.heap.size ys ∧ Row wr w2.heap.size qs ∧ Below w.heap.size w wr ∧ Hid (Lg (val us * 2 ^ s) (val vs) ys qs j)) (fun i _ => dg - (intOf i).toNat)
  case atStart => exact ⟨0, dg, zs, zeros dg, by omega, rfl, HZL.out, zeros_length _, hzb, zeros_lb _, hwr2.alloc _, hzr.alloc _, Row.new _ _, hbw.alloc (by omega) _, HST⟩
  case round =>
    obtain ⟨k, jj, ys, qs, hkj, rfl, hyl, hql, hyb, hqb, r1, r2, r3, hbel, hLg⟩ := hrel
    have HYL := Lib.hid hyl
    have HQL := Lib.hid hql
    have HKJ := Lib.hid hkj
    clear hyl hql hmk hzr hwr hwr2 b1 b2 hbw HST
    by_cases hlt : k < dg
    · obtain ⟨j, rfl⟩ : ∃ j, jj = j + 1 := ⟨jj - 1, by omega⟩
      have ej : (dg : Int) - 1 - (k : Int) = (j : Int) := by omega
      have hjn : j + m + 2 ≤ us.length := by have := HS.out; omega
      have hjd : j < dg := by omega
      have hj2 : j ≤ us.length := by omega
      have hne : ¬ us.length + 1 = j := by omega
      have hkn : Kn ys vs j m := ⟨HVL.out, hlbv, hyb, by rw [HYL.out]; omega, HTOP.out, hLg.out.lt⟩
      have hq1 := r3.cell (i := j) (by rw [HQL.out]; exact hjd)
      have hq2 := r3.frozen j
      have HKN := Lib.hid hkn
      clear hkj hkn
      go_wp2_with fail
      rw [show j + (m + 2) + 1 - j = m + 3 by omega]
      refine (nextDigit_c _ ys vs w1.heap.size j m (us.length + 1 - j) (m + 2 + 1) wr HKN.out r2 (HLIM.out wr r1) (by intro b' o' e; injection e with e; injection e with e1 e2; omega) (by omega) (by rw [HYL.out]; omega) (by omega)).mono ?_
      rintro e w5 ⟨xs, rfl, hxl, hxb, hxr, hxv, hon⟩
      have hless := HKN.out.less hxv
      have hQ := HKN.out.Q_lt
      obtain ⟨Q, eQ⟩ : ∃ Q, val (ys.drop j) / val vs = Q := ⟨_, rfl⟩
      rw [eQ] at hxv hQ ⊢
      have hlg2 := hLg.out.step (Q := Q) (by rw [HQL.out]; exact hjd) hxv hless
      have r1' := hon.row (by omega) r1
      have r3' := hon.row (by omega) r3
      have hbel5 : Below w.heap.size w w5 := hbel.trans (hon.bel.mono (by omega))
      have hq3 := r3'.cell (i := j) (by rw [HQL.out]; exact hjd)
      have hq4 := r3'.frozen j
      have hput := r3'.put j Q (z := (Q : Int)) rfl
      have HXL := Lib.hid hxl
      have HLG2 := Lib.hid hlg2
      clear eQ hxv hless hlg2 hxl hq1 hq2 r1 r2 r3 hLg HKN hbel hne
      rw [Ba_eq] at hQ
      go_wp2
      go_roundw
      case rel => exact ⟨k + 1, j, xs, qs.set j Q, by have := HKJ.out; omega, by go_num, by rw [HXL.out]; exact HYL.out, by rw [List.length_set]; exact HQL.out, hxb, hqb.set _ _ hQ, r1'.far (by show w.heap.size ≠ w2.heap.size; omega) _, hxr.far (by show w1.heap.size ≠ w2.heap.size; omega) _, hput, hbel5.setCell (by show w.heap.size ≤ w2.heap.size; omega) _, HLG2⟩
      case measure => simp [intOf]; omega
    · have ejj : jj = 0 := by omega
      subst ejj
      obtain rfl : k = dg := by omega
      obtain ⟨hq, hz⟩ := hLg.out.finish
      have hpow : 0 < 2 ^ s := Nat.pow_pos (by decide)
      have hq' : val qs = val us / val bs := by rw [hq, HV.out, Nat.mul_div_mul_right _ _ hpow]
      have hz' : val ys = val us % val bs * 2 ^ s := by rw [hz, HV.out, Nat.mul_mod_mul_right]
      have hlt2 : val ys < Ba ^ (m + 2) := by
        have h1 := hLg.out.lt
        have h2 := val_lt hlbv
        rw [HVL.out] at h2
        simp at h1
        omega
      have htk := val_take_of_zero (zero_of_val hlt2)
      have hlim := (r2.lim hyb (by rw [HYL.out]; omega)).take (m + 2)
      rw [HYL.out] at hlim
      have htl : (ys.take (m + 2)).length = m + 2 := by rw [List.length_take, HYL.out]; omega
      have hval : val (ys.take (m + 2)) / 2 ^ s = val us % val bs := by rw [htk, hz', Nat.mul_div_cancel _ hpow]
      have HQ := Lib.hid hq'
      have HVAL := Lib.hid hval
      have HTL := Lib.hid htl
      have g3 : w2.heap.size < wr.heap.size := r3.lt
      clear hq hz hq' hz' hlt2 htk htl hval hLg hkj
      go_wp2_with fail
      refine (ShiftRight_k _ (ys.take (m + 2)) _ s (m + 2) wr hlim HTL.out (by omega) (by omega)).mono ?_
      rintro e w6 ⟨A6, c6, rfl, r6, b6⟩
      rw [HVAL.out] at r6 ⊢
      have r3' := r3.below b6 g3
      have hbel6 : Below w.heap.size w w6 := hbel.trans (b6.mono hbel.size)
      go_wp2_with fail
      have hown := r3'.own hqb (lo := w.heap.size) (by omega) (by rw [HQL.out]; omega)
      rw [HQL.out] at hown
      refine (cut_k _ qs k k (val us / val bs) w6 hown.lim HQL.out HQ.out).mono ?_
      rintro e w7 ⟨rfl, rfl⟩
      have hcut := hown.cut
      rw [HQ.out] at hcut
      go_wp2
      go_ret2
      exact ⟨_, _, A6, c6, rfl, hcut, r6.mono hbel.size, hbel6⟩

/-- the division in full -/
theorem DivMod_long (A B : Option Addr) (xs ys : List Nat) (c d : Nat) (w : World) (ha : Lim w A c xs) (hb : Lim w B d ys) (hs : xs.length < 70368744177664) (hge : val ys ≤ val xs) (hbig : Ba * Ba ≤ val xs) (h1 : 2 ≤ (limbs (val ys)).length) : Calls Try.prog 14 #[.slice A xs.length c, .slice B ys.length d] w (RetDiv w (val xs / val ys) (val xs % val ys)) := by
  have la := limbs_length_le ha.lb
  have l2 : (2 : Int) < ((limbs (val xs)).length : Int) := by
    have : ¬ (limbs (val xs)).length ≤ 2 := fun h => by have := limbs_two.1 h; omega
    omega
  have ec : 0 ≤ cmpN (val (limbs (val xs))) (val (limbs (val ys))) := by
    rw [val_limbs, val_limbs]
    rcases Nat.lt_or_eq_of_le hge with h | h
    · rw [cmpN_gt h]; omega
    · rw [cmpN_eq h.symm]; omega
  obtain ⟨m, em⟩ : ∃ m, (limbs (val ys)).length = m + 2 := ⟨(limbs (val ys)).length - 2, by omega⟩
  have hy0 : val ys ≠ 0 := fun h => by rw [h, limbs_zero] at h1; simp at h1
  have htop := limbs_last hy0
  rw [em, show m + 2 - 1 = m + 1 from rfl] at htop
  have hmono := limbs_mono hge
  rw [em] at hmono
  have lne : (((limbs (val ys)).length : Int) == 0) = false := by rw [em, beq_eq_false_iff_ne]; omega
  have EM := Lib.hid em
  have HTOP := Lib.hid htop
  have em1 : (((m : Int) + 2) == 1) = false := by rw [beq_eq_false_iff_ne]; omega
  clear em htop hge hbig h1 hy0
  go_enter Try.func14, Try.ntmps14
  go_wp2_with fail
  refine (cut_c _ _ _ _ ha).mono ?_
  rintro e w' ⟨rfl, rfl⟩
  go_wp2_with fail
  refine (cut_c _ _ _ _ hb).mono ?_
  rintro e w' ⟨rfl, rfl⟩
  go_wp2_with fail
  refine (Compare_c _ _ _ _ _ _ _ ha.cut hb.cut).mono ?_
  rintro e w' ⟨rfl, n, rfl⟩
  generalize cmpN (val (limbs (val xs))) (val (limbs (val ys))) = z at *
  have ec' : ¬ z < 0 := by omega
  clear lne
  rw [EM.out]
  have l2' : ¬ (((limbs (val xs)).length : Int) ≤ 2) := by omega
  go_wp2_with fail
  refine (divideLong_c _ _ (limbs (val xs)) (limbs (val ys)) m c d _ (ha.cut.drewN n) (hb.cut.drewN n) EM.out hmono (by omega) HTOP.out).mono ?_
  rintro e w1 ⟨A1, c1, A2, c2, rfl, r1, r2, b1'⟩
  rw [val_limbs, val_limbs] at r1 r2 ⊢
  go_wp2
  go_ret3
  exact ⟨A1, c1, A2, c2, rfl, r1, r2, (below_drewN (Below.refl _ w) n).trans b1'⟩

theorem DivMod_c (A B : Option Addr) (xs ys : List Nat) (c d : Nat) (w : World) (ha : Lim w A c xs) (hb : Lim w B d ys) (hs : xs.length < 70368744177664) (h0 : val ys ≠ 0) : Calls Try.prog 14 #[.slice A xs.length c, .slice B ys.length d] w (RetDiv w (val xs / val ys) (val xs % val ys)) := by
  rcases Nat.lt_or_ge (val xs) (val ys) with hlt | hge
  · exact DivMod_lt A B xs ys c d w ha hb (by omega) hlt
  · rcases Nat.lt_or_ge (val xs) (Ba * Ba) with hsm | hbig
    · exact DivMod_small A B xs ys c d w ha hb h0 hge hsm
    · rcases Nat.lt_or_ge (limbs (val ys)).length 2 with h1 | h1
      · have hp : 0 < (limbs (val ys)).length := List.length_pos_iff.2 (fun e => h0 (limbs_eq_nil.1 e))
        exact DivMod_limb A B xs ys c d w ha hb (by omega) hge hbig (by omega)
      · exact DivMod_long A B xs ys c d w ha hb hs hge hbig h1
end Go.Proofs.Ytkpchamgghhihaa
