/- Contracts of package natural: the next digit of the long division. -/
import Derived.Test.YtkpchamgghhihaaNatI
import Derived.Deep.CutBlock
import Derived.Deep.DeepCutAuto
namespace Go.Proofs.Ytkpchamgghhihaa
open Go.RowKit Gm

theorem wrap_low' (z : Int) (h1 : -4294967296 ≤ z) (h2 : z < 0) : IntKind.u64.wrap z % 4294967296 = z + 4294967296 := wrap_low z h1 h2

/-- just block g has changed -/
structure Only (g : Nat) (w w' : World) : Prop where
  bel : Below g w w'
  same : ∀ b, b ≠ g → w'.heap[b]? = w.heap[b]?
  size : w'.heap.size = w.heap.size
theorem Only.refl (g : Nat) (w : World) : Only g w w := ⟨Below.refl _ _, fun _ _ => rfl, rfl⟩
theorem Only.drewN {g : Nat} {w w' : World} (h : Only g w w') (n : Nat) : Only g w (w'.drewN n) := ⟨below_drewN h.bel n, h.same, h.size⟩
theorem Only.put {g : Nat} {w w' : World} (h : Only g w w') (i : Nat) (v : Value) : Only g w (w'.setCell ⟨g, i, none⟩ v) :=
  ⟨h.bel.setCell (Nat.le_refl _) _, fun b hb => (Below.heap_setCell w' ⟨g, i, none⟩ v b hb).trans (h.same b hb), by rw [← h.size]; simp [World.setCell]⟩
theorem Only.row {g b : Nat} {w w' : World} {zs : List Nat} (h : Only g w w') (hb : b ≠ g) (hr : Row w b zs) : Row w' b zs := (h.same b hb).trans hr

/-- what the next digit returns: the row has the digit's multiple of the divisor taken away -/
def RetDig (zs vs : List Nat) (g j : Nat) (w : World) (e : Ending) (w' : World) : Prop :=
  ∃ ys, e = .returned (.int .u32 ((val (zs.drop j) / val vs : Nat) : Int)) ∧ ys.length = zs.length ∧ Lb ys ∧ Row w' g ys ∧ val ys + Ba ^ j * (val (zs.drop j) / val vs * val vs) = val zs ∧ Only g w w'

set_option maxHeartbeats 4000000 in
set_option maxRecDepth 100000 in
theorem nextDigit_c (B : Option Addr) (zs vs : List Nat) (g j m cu c : Nat) (w : World) (h : Kn zs vs j m) (hrow : Row w g zs) (hb : Lim w B c vs) (hB : ∀ b o, B = some ⟨b, o, none⟩ → b < g) (hcu : m + 3 ≤ cu) (hlen : zs.length ≤ 70368744177665) (hcm : cu ≤ 9223372036854775807) :
    Calls Try.prog 103 #[.slice (some ⟨g, j, none⟩) (m + 3) cu, .slice B (m + 2) c] w (RetDig zs vs g j w) := by
  have hf := h.fit
  have hl2 := h.len
  obtain ⟨b, o, rfl, hbl, hc⟩ := hb.at_ (by omega)
  have hbg := hB b o rfl
  have u2 := hrow.cell (i := j + m + 2) (by omega)
  have u1 := hrow.cell (i := j + m + 1) (by omega)
  have u0 := hrow.cell (i := j + m) (by omega)
  have v1 := hc (m + 1) (by omega)
  have v2 := hc m (by omega)
  have b2 : zs[j + m + 2]?.getD 0 < 4294967296 := h.lbz.get _
  have b1 : zs[j + m + 1]?.getD 0 < 4294967296 := h.lbz.get _
  have b0 : zs[j + m]?.getD 0 < 4294967296 := h.lbz.get _
  have d1 := h.v1
  have d2 : vs[m]?.getD 0 < 4294967296 := h.lbv.get _
  obtain ⟨U2, e2⟩ : ∃ x, zs[j + m + 2]?.getD 0 = x := ⟨_, rfl⟩
  obtain ⟨U1, e1⟩ : ∃ x, zs[j + m + 1]?.getD 0 = x := ⟨_, rfl⟩
  obtain ⟨U0, e0⟩ : ∃ x, zs[j + m]?.getD 0 = x := ⟨_, rfl⟩
  obtain ⟨V1, f1⟩ : ∃ x, vs[m + 1]?.getD 0 = x := ⟨_, rfl⟩
  obtain ⟨V2, f2⟩ : ∃ x, vs[m]?.getD 0 = x := ⟨_, rfl⟩
  rw [e2] at u2 b2
  rw [e1] at u1 b1
  rw [e0] at u0 b0
  rw [f1] at v1 d1
  rw [f2] at v2 d2
  have hor := or_hi' U1 U2 b1 b2
  have hst := Dg.start h (t := U2 * Ba + U1) (by rw [e2, e1])
  rw [f1] at hst
  obtain ⟨T, eT⟩ : ∃ T, U2 * Ba + U1 = T := ⟨_, rfl⟩
  rw [eT] at hst
  rw [show U1 + 4294967296 * U2 = T by rw [← eT, Ba_eq, Nat.mul_comm, Nat.add_comm]] at hor
  have hTb : T < 18446744073709551616 := by rw [← eT, Ba_eq]; omega
  have q1 : (T : Int).tdiv (V1 : Int) = ((T / V1 : Nat) : Int) := by rw [Int.tdiv_eq_ediv_of_nonneg (by omega)]; rfl
  have q2 : (T : Int).tmod (V1 : Int) = ((T % V1 : Nat) : Int) := by rw [Int.tmod_eq_emod_of_nonneg (by omega)]; rfl
  have hrl := Nat.mod_lt T (show 0 < V1 by omega)
  obtain ⟨D0, eD⟩ : ∃ x, T / V1 = x := ⟨_, rfl⟩
  obtain ⟨R0, eR⟩ : ∃ x, T % V1 = x := ⟨_, rfl⟩
  rw [eD] at q1 hst
  rw [eR] at q2 hst hrl
  have hne : ((V1 : Int) == 0) = false := by rw [beq_eq_false_iff_ne]; omega
  have u2' : w.cell? ⟨g, j + (m + 2), none⟩ = some (.int .u32 (U2 : Int)) := u2
  have u1' : w.cell? ⟨g, j + (m + 1), none⟩ = some (.int .u32 (U1 : Int)) := u1
  have E2 := Lib.hid e2
  have E1 := Lib.hid e1
  have E0 := Lib.hid e0
  have F1 := Lib.hid f1
  have F2 := Lib.hid f2
  have HC := Lib.hid hc
  have HL2 := Lib.hid hl2
  have HT := Lib.hid eT
  have hD0 : D0 ≤ 4294967297 := by have := hst.le; rw [Ba_eq] at this; exact this
  have hwD : IntKind.u64.wrap (D0 : Int) = (D0 : Int) := by rw [IntKind.wrap_u64]; omega
  obtain ⟨Q, eQ⟩ : ∃ Q, val (zs.drop j) / val vs = Q := ⟨_, rfl⟩
  have EQ := Lib.hid eQ
  have HST := Lib.hid hst
  clear e2 e1 e0 f1 f2 eT eD eR hc hl2 u2 u1 eQ hst
  go_enter Try.func103, Try.ntmps103
  go_wp2_with fail
  go_quiet (fail)
  go_wp2_with fail
  go_quiet (fail)
  clear hor u2' u1' q1 q2 hne hTb
  go_upto_block 0 with fail
  go_cut [7] (fun t wx => ∃ (D n : Nat), t = .int .u64 D ∧ D < Ba ∧ (D = Q ∨ D = Q + 1) ∧ wx = w.drewN n)
  case first =>
    go_wp2_with fail
    go_loopw [7, 8] (fun t r wr => ∃ (D R n : Nat), t = .int .u64 D ∧ r = .int .u64 R ∧ R < 4294967296 ∧ Hid (Dg zs vs j m D R) ∧ wr = w.drewN n) (fun t _ _ => (intOf t).toNat)
    case atStart => exact ⟨D0, R0, _, rfl, rfl, by omega, HST, World.drewN_drewN _ _ _⟩
    case round =>
      obtain ⟨D, R, n, rfl, rfl, hR, hDg, rfl⟩ := hrel
      have hDl : D ≤ 4294967297 := by have := hDg.out.le; rw [Ba_eq] at this; exact this
      by_cases hbig : 4294967296 ≤ D
      · obtain ⟨hd0, hdn⟩ := Dg.down h hDg.out (.inl hbig)
        rw [F1.out] at hdn
        have HDN := Lib.hid hdn
        have t1 : ((D : Int) / 4294967296 != 0) = true := by rw [bne_iff_ne]; omega
        clear hdn
        go_wp2_with fail
        go_quiet (fail)
        by_cases hbr : 4294967296 ≤ R + V1
        · have hfd := Dg.found h HDN.out (.inr hbr)
          rw [EQ.out] at hfd
          have HFD := Lib.hid hfd
          have t2 : (((R : Int) + V1) / 4294967296 != 0) = true := by rw [bne_iff_ne]; omega
          clear hfd
          go_wp2
          go_meet
          exact ⟨D - 1, _, by congr 1; omega, HFD.out.1, HFD.out.2, rfl⟩
        · have t2 : (((R : Int) + V1) / 4294967296 != 0) = false := by rw [bne_eq_false_iff_eq]; omega
          go_wp2
          go_roundw
          case rel => exact ⟨D - 1, R + V1, _, by congr 1; omega, by go_num, by omega, HDN, rfl⟩
          case measure => simp [intOf]; omega
      · have t1 : ((D : Int) / 4294967296 != 0) = false := by rw [bne_eq_false_iff_eq]; omega
        have hpe : (D : Int) * (V2 : Int) = ((D * V2 : Nat) : Int) := (Int.natCast_mul D V2).symm
        have hpb := Nat.mul_le_mul (Nat.le_pred_of_lt (show D < 4294967296 by omega)) (Nat.le_pred_of_lt d2)
        have hor := or_hi' U0 R b0 hR
        have hdown := @Dg.down zs vs j m h D R hDg.out
        have hfound := @Dg.found zs vs j m h D R hDg.out
        rw [F1.out, F2.out, E0.out] at hdown
        rw [F2.out, E0.out, EQ.out] at hfound
        obtain ⟨M, eM⟩ : ∃ M, D * V2 = M := ⟨_, rfl⟩
        obtain ⟨N, eN⟩ : ∃ N, U0 + 4294967296 * R = N := ⟨_, rfl⟩
        have eN' : R * Ba + U0 = N := by rw [← eN, Ba_eq, Nat.mul_comm, Nat.add_comm]
        rw [eM] at hpe hpb hdown hfound
        rw [eN] at hor
        rw [eN'] at hdown hfound
        have hpb' : M ≤ 18446744065119617025 := hpb
        have w1 : IntKind.u64.wrap ((D : Int) * (V2 : Int)) = (M : Int) := by rw [hpe, IntKind.wrap_u64]; omega
        have w2 : IntKind.u64.wrap ((R : Int) * 4294967296) = (R : Int) * 4294967296 := by rw [IntKind.wrap_u64]; omega
        have HDOWN := Lib.hid hdown
        have HFOUND := Lib.hid hfound
        clear eM eN eN' hpb hpe hdown hfound
        by_cases htest : N < M
        · obtain ⟨hd0, hdn⟩ := HDOWN.out (.inr htest)
          have HDN := Lib.hid hdn
          clear hdn
          go_wp2_with fail
          go_quiet (fail)
          by_cases hbr : 4294967296 ≤ R + V1
          · have hfd := Dg.found h HDN.out (.inr hbr)
            rw [EQ.out] at hfd
            have HFD := Lib.hid hfd
            have t2 : (((R : Int) + V1) / 4294967296 != 0) = true := by rw [bne_iff_ne]; omega
            clear hfd
            go_wp2
            go_meet
            exact ⟨D - 1, _, by congr 1; omega, HFD.out.1, HFD.out.2, rfl⟩
          · have t2 : (((R : Int) + V1) / 4294967296 != 0) = false := by rw [bne_eq_false_iff_eq]; omega
            go_wp2
            go_roundw
            case rel => exact ⟨D - 1, R + V1, _, by congr 1; omega, by go_num, by omega, HDN, rfl⟩
            case measure => simp [intOf]; omega
        · have hfd := HFOUND.out (.inl ⟨by rw [Ba_eq]; omega, by omega⟩)
          have HFD := Lib.hid hfd
          clear hfd
          go_wp2_with fail
          go_quiet (fail)
          go_wp2
          go_meet
          exact ⟨D, _, rfl, HFD.out.1, HFD.out.2, World.drewN_drewN _ _ _⟩
  case rest =>
    obtain ⟨D, n, rfl, hD, hDQ, rfl⟩ := hcut
    rw [Ba_eq] at hD
    have HDQ := Lib.hid hDQ
    clear hDQ u0 v1 v2 b0 b1 hD0 hwD hrl HST d2 d1
    have HBG := Lib.hid hbg
    clear hB hbg
    go_wp2_with fail
    go_loopw [9, 86] (fun t i wr => ∃ (k q : Nat) (ys : List Nat), k ≤ m + 2 ∧ i = .int .i64 k ∧ t = .int .u64 q ∧ q < 4294967296 ∧ ys.length = zs.length ∧ Lb ys ∧ Row wr g ys ∧ Only g w wr ∧ (∀ l, j + k ≤ l → ys[l]?.getD 0 = zs[l]?.getD 0) ∧ val ys + Ba ^ j * (D * val (vs.take k)) = val zs + Ba ^ (j + k) * q) (fun _ i _ => m + 2 - (intOf i).toNat)
    case atStart => exact ⟨0, 0, zs, Nat.zero_le _, rfl, rfl, by omega, rfl, h.lbz, hrow, (Only.refl g w).drewN n, fun _ _ => rfl, by simp [val]⟩
    case round =>
      obtain ⟨k, q, ys, hk, rfl, rfl, hq, hl, hz, hrow2, hon, hsame, hv⟩ := hrel
      have HV := Lib.hid hv
      have HS := Lib.hid hsame
      have HL := Lib.hid hl
      clear hv hsame hl hrow
      by_cases hlt : k < m + 2
      · have hx := (hon.bel.cell (p := ⟨b, o + k, none⟩) HBG.out).trans (HC.out k (by rw [HL2.out]; omega))
        have bx : vs[k]?.getD 0 < 4294967296 := h.lbv.get k
        have hyc := hrow2.cell (i := j + k) (by rw [HL.out]; omega)
        have hyf := hrow2.frozen (j + k)
        have bY : ys[j + k]?.getD 0 < 4294967296 := hz.get (j + k)
        have hstep := fun z c' => @ms_step ys vs j k q D z c' (val zs) (by rw [HL.out]; omega) HV.out
        obtain ⟨x, ex⟩ : ∃ x, vs[k]?.getD 0 = x := ⟨_, rfl⟩
        obtain ⟨y, ey⟩ : ∃ y, ys[j + k]?.getD 0 = y := ⟨_, rfl⟩
        rw [ex] at hx bx
        rw [ey] at hyc bY
        simp only [ex, ey] at hstep
        obtain ⟨c1, c2, c3⟩ := ms_carry (d := D) (x := x) (c := q) (y := y) hD bx hq bY
        have hpe : (D : Int) * (x : Int) = ((D * x : Nat) : Int) := (Int.natCast_mul D x).symm
        obtain ⟨M, eM⟩ : ∃ M, D * x = M := ⟨_, rfl⟩
        rw [eM] at hpe c1 c2 c3
        simp only [eM] at hstep
        have hpq : (M : Int) + (q : Int) = ((M + q : Nat) : Int) := by omega
        obtain ⟨P, eP⟩ : ∃ P, M + q = P := ⟨_, rfl⟩
        rw [eP] at hpq c1 c2 c3
        simp only [eP] at hstep
        have hBB : Ba * Ba = 18446744073709551616 := by decide
        rw [hBB] at c1
        rw [Ba_eq] at c2 c3
        have hM : M ≤ 18446744073709551615 := by omega
        have hP : P ≤ 18446744073709551615 := by omega
        have hmd : P = P % 4294967296 + 4294967296 * (P / 4294967296) := (Nat.mod_add_div P 4294967296).symm
        have g1 : (P : Int) % 4294967296 = ((P % 4294967296 : Nat) : Int) := by omega
        have g2 : (P : Int) / 4294967296 = ((P / 4294967296 : Nat) : Int) := by omega
        have hLo : P % 4294967296 < 4294967296 := Nat.mod_lt _ (by decide)
        obtain ⟨L, eL⟩ : ∃ L, P % 4294967296 = L := ⟨_, rfl⟩
        obtain ⟨H, eH⟩ : ∃ H, P / 4294967296 = H := ⟨_, rfl⟩
        rw [eL] at g1 c3 hLo hmd
        rw [eH] at g2 c2 c3 hmd
        have HMD := Lib.hid hmd
        have HST := Lib.hid hstep
        have C3 := Lib.hid c3
        clear ex ey eM eP eL eH hmd hstep hBB c3 c1
        by_cases hyl : L ≤ y
        · have hr := hrow2.put (j + k) (y - L) (z := (y : Int) - L) (by omega)
          have hst2 := HST.out (y - L) H (by rw [Ba_eq]; have := HMD.out; omega)
          have HST2 := Lib.hid hst2
          clear hst2
          go_wp2
          go_roundw
          case rel => exact ⟨k + 1, H, ys.set (j + k) (y - L), by omega, by go_num, by congr 1; omega, c2, by rw [List.length_set]; exact HL.out, hz.set _ _ (by rw [Ba_eq]; omega), hr, hon.put _ _, fun l hl => by rw [get_set_ne _ (by omega)]; exact HS.out l (by omega), HST2.out⟩
          case measure => simp [intOf]; omega
        · have hH : H + 1 < 4294967296 := C3.out (by omega)
          have hr := hrow2.put (j + k) (y + 4294967296 - L) (z := IntKind.u64.wrap ((y : Int) - L) % 4294967296) (by rw [wrap_low _ (by omega) (by omega)]; omega)
          have hst2 := HST.out (y + 4294967296 - L) (H + 1) (by rw [Ba_eq]; have := HMD.out; omega)
          have HST2 := Lib.hid hst2
          have hws := wrap_sign ((y : Int) - L) (by omega) (by omega)
          clear hst2
          go_wp2
          go_roundw
          case rel => exact ⟨k + 1, H + 1, ys.set (j + k) (y + 4294967296 - L), by omega, by go_num, by go_num, hH, by rw [List.length_set]; exact HL.out, hz.set _ _ (by rw [Ba_eq]; omega), hr, hon.put _ _, fun l hl => by rw [get_set_ne _ (by omega)]; exact HS.out l (by omega), HST2.out⟩
          case measure => simp [intOf]; omega
      · obtain rfl : k = m + 2 := by omega
        have hV := HV.out
        rw [List.take_of_length_le (by rw [HL2.out]; exact Nat.le_refl _)] at hV
        have hyc := hrow2.cell (i := j + (m + 2)) (by rw [HL.out]; omega)
        have hyf := hrow2.frozen (j + (m + 2))
        have eU : ys[j + (m + 2)]?.getD 0 = U2 := by rw [HS.out _ (Nat.le_refl _)]; exact E2.out
        rw [eU] at hyc
        have EU := Lib.hid eU
        have HV2 := Lib.hid hV
        clear hV eU
        by_cases hqu : q ≤ U2
        · have hr := hrow2.put (j + (m + 2)) (U2 - q) (z := (U2 : Int) - q) (by omega)
          have htop := ms_top (k := j + (m + 2)) (z := U2 - q) (by rw [HL.out]; omega) EU.out HV2.out (by omega)
          have hdone := h.done (by rw [EQ.out]; exact HDQ.out) htop
          have HT2 := Lib.hid htop
          have HDN := Lib.hid hdone
          clear htop hdone
          go_wp2
          go_ret
          refine ⟨ys.set (j + (m + 2)) (U2 - q), ?_, by rw [List.length_set]; exact HL.out, hz.set _ _ (by rw [Ba_eq]; omega), hr, by rw [← HDN.out]; exact HT2.out, hon.put _ _⟩
          rw [← HDN.out]
          rfl
        · have hr := hrow2.put (j + (m + 2)) (U2 + 4294967296 - q) (z := IntKind.u64.wrap ((U2 : Int) - q) % 4294967296) (by rw [wrap_low _ (by omega) (by omega)]; omega)
          have hws := wrap_sign ((U2 : Int) - q) (by omega) (by omega)
          have htop := ms_top' (k := j + (m + 2)) (z := U2 + 4294967296 - q) (by rw [HL.out]; omega) EU.out HV2.out (by rw [Ba_eq]; omega)
          have hlb2 := hz.set (j + (m + 2)) (U2 + 4294967296 - q) (by rw [Ba_eq]; omega)
          have hzero : ∀ l, j + m + 2 + 1 ≤ l → (ys.set (j + (m + 2)) (U2 + 4294967296 - q))[l]?.getD 0 = 0 := fun l hl => by
            rw [get_set_ne _ (by omega), HS.out l (by omega)]; exact h.zero l (by omega)
          have hvl := val_lt_of_zero hlb2 hzero
          have hbor := h.borrowed (by rw [EQ.out]; exact HDQ.out) hvl htop
          have hlen2 : (ys.set (j + (m + 2)) (U2 + 4294967296 - q)).length = zs.length := by rw [List.length_set]; exact HL.out
          have hset : (ys.set (j + (m + 2)) (U2 + 4294967296 - q))[j + (m + 2)]?.getD 0 = U2 + 4294967296 - q := get_set_eq _ (by rw [HL.out]; omega)
          have hon2 := hon.put (j + (m + 2)) (.int .u32 (IntKind.u64.wrap ((U2 : Int) - q) % 4294967296))
          obtain ⟨xs, exs⟩ : ∃ xs, ys.set (j + (m + 2)) (U2 + 4294967296 - q) = xs := ⟨_, rfl⟩
          obtain ⟨Z, eZ⟩ : ∃ Z, U2 + 4294967296 - q = Z := ⟨_, rfl⟩
          have hZ : Z < 4294967296 := by omega
          rw [exs] at hr htop hlb2 hzero hlen2 hset
          rw [eZ] at hset
          have HTOP := Lib.hid htop
          have HZERO := Lib.hid hzero
          have HLEN := Lib.hid hlen2
          have HSET := Lib.hid hset
          have HBOR := Lib.hid hbor
          clear htop hzero hlen2 hset hbor exs eZ hvl HV HV2 HS EU
          have hD1 : 1 ≤ D := by rw [HBOR.out]; exact Nat.le_add_left _ _
          obtain ⟨wo, hwo⟩ : ∃ wo, wr.setCell ⟨g, j + (m + 2), none⟩ (.int .u32 (IntKind.u64.wrap ((U2 : Int) - q) % 4294967296)) = wo := ⟨_, rfl⟩
          rw [hwo] at hr hon2
          have HWO := Lib.hid hwo
          clear hwo
          go_wp2_with fail
          rw [HWO.out]
          clear HWO hyc hyf hrow2 hon hws
          go_loopw [9, 136] (fun t i wi => ∃ (k q : Nat) (ps : List Nat), k ≤ m + 2 ∧ i = .int .i64 k ∧ t = .int .u64 q ∧ q ≤ 1 ∧ ps.length = zs.length ∧ Lb ps ∧ Row wi g ps ∧ Only g w wi ∧ (∀ l, j + k ≤ l → ps[l]?.getD 0 = xs[l]?.getD 0) ∧ val ps + Ba ^ (j + k) * q = val xs + Ba ^ j * val (vs.take k)) (fun _ i _ => m + 2 - (intOf i).toNat)
          case atStart => exact ⟨0, 0, xs, Nat.zero_le _, rfl, rfl, by omega, HLEN.out, hlb2, hr, hon2, fun _ _ => rfl, by simp [val]⟩
          case round =>
            clear hr hon2
            obtain ⟨k, f, ps, hk2, rfl, rfl, hf2, hl3, hz3, hrow3, hon3, hsame3, hv3⟩ := hrel
            have HV3 := Lib.hid hv3
            have HS3 := Lib.hid hsame3
            have HL3 := Lib.hid hl3
            clear hv3 hsame3 hl3
            by_cases hlt3 : k < m + 2
            · have hx := (hon3.bel.cell (p := ⟨b, o + k, none⟩) HBG.out).trans (HC.out k (by rw [HL2.out]; omega))
              have bx : vs[k]?.getD 0 < 4294967296 := h.lbv.get k
              have hyc := hrow3.cell (i := j + k) (by rw [HL3.out]; omega)
              have hyf := hrow3.frozen (j + k)
              have bY : ps[j + k]?.getD 0 < 4294967296 := hz3.get (j + k)
              have hstep := ab_step (zs := ps) (vs := vs) (j := j) (i := k) (c := f) (T := val xs) (by rw [HL3.out]; omega) HV3.out
              obtain ⟨x, ex⟩ : ∃ x, vs[k]?.getD 0 = x := ⟨_, rfl⟩
              obtain ⟨y, ey⟩ : ∃ y, ps[j + k]?.getD 0 = y := ⟨_, rfl⟩
              rw [ex] at hx bx hstep
              rw [ey] at hyc bY hstep
              have HST := Lib.hid hstep
              have hr := hrow3.put (j + k) ((f + (y + x)) % Ba) (z := ((f : Int) + (y + x)) % 4294967296) (by simp only [Ba_eq]; omega)
              clear ex ey hstep
              go_wp2
              go_roundw
              case rel => exact ⟨k + 1, (f + (y + x)) / Ba, ps.set (j + k) ((f + (y + x)) % Ba), by omega, by go_num, by simp only [Ba_eq]; go_num, by simp only [Ba_eq]; omega, by rw [List.length_set]; exact HL3.out, hz3.set _ _ (Nat.mod_lt _ Ba_pos), hr, hon3.put _ _, fun l hl => by rw [get_set_ne _ (by omega)]; exact HS3.out l (by omega), HST.out⟩
              case measure => simp [intOf]; omega
            · obtain rfl : k = m + 2 := by omega
              have hyc := hrow3.cell (i := j + (m + 2)) (by rw [HL3.out]; omega)
              have hyf := hrow3.frozen (j + (m + 2))
              have ep : ps[j + (m + 2)]?.getD 0 = Z := by rw [HS3.out _ (Nat.le_refl _)]; exact HSET.out
              rw [ep] at hyc
              have hV := HV3.out
              rw [List.take_of_length_le (by rw [HL2.out]; exact Nat.le_refl _)] at hV
              have htop := ab_top (k := j + (m + 2)) (by rw [HL3.out]; omega) ep hV
              have hlb4 := hz3.set (j + (m + 2)) ((Z + f) % Ba) (Nat.mod_lt _ Ba_pos)
              have hlt4 := val_lt_of_zero (m := j + m + 2 + 1) hlb4 (fun l hl => by rw [get_set_ne _ (by omega), HS3.out l (by omega)]; exact HZERO.out l hl)
              have hQ : D = val (zs.drop j) / val vs + 1 := HBOR.out
              have hback := h.back (q := val (zs.drop j) / val vs) (ys := xs) (xs := ps.set (j + (m + 2)) ((Z + f) % Ba)) (c := (Z + f) / Ba) rfl (by rw [← hQ]; exact HTOP.out) htop hlt4 (val_lt_of_zero h.lbz h.zero)
              have HB := Lib.hid hback
              have hr := hrow3.put (j + (m + 2)) ((Z + f) % Ba) (z := ((Z : Int) + f) % 4294967296) (by simp only [Ba_eq]; omega)
              have HQ := Lib.hid (show val (zs.drop j) / val vs = D - 1 by omega)
              clear ep hV htop hlt4 hback hQ
              go_wp2
              go_ret
              refine ⟨ps.set (j + (m + 2)) ((Z + f) % Ba), ?_, by rw [List.length_set]; exact HL3.out, hlb4, hr, HB.out, hon3.put _ _⟩
              rw [HQ.out]
              exact congrArg (fun z => Ending.returned (.int .u32 z)) (by omega)
end Go.Proofs.Ytkpchamgghhihaa
