/- Contracts of the reference of layer 1: differences, products. -/
import Derived.Test.YtkpchamgghhihaaRefC
namespace Go.Proofs.Ytkpchamgghhihaa
open Go.RowKit Gm

/-- what a function returns that refuses: nothing -/
def RetNo1 (w : World) (e : Ending) (w' : World) : Prop := e = .returned (.tuple #[.slice none 0 0, .bool false]) ∧ Below w.heap.size w w'

set_option maxHeartbeats 400000 in
theorem rSub_no (A B : Option Addr) (xs ys : List Nat) (c d : Nat) (w : World) (ha : Lim w A c xs) (hb : Lim w B d ys) (hs : xs.length ≤ 70368744177664) (ht : ys.length ≤ 70368744177664) (hlt : val xs < val ys) :
    Calls Try.prog 111 #[.slice A xs.length c, .slice B ys.length d] w (RetNo1 w) := by
  have EC := Lib.hid (cmpN_lt hlt)
  clear hlt
  go_enter Try.func111, Try.ntmps111
  go_wp2_with fail
  refine (rCompare_c _ _ _ _ _ _ _ ha hb hs ht).mono ?_
  rintro e w1 ⟨rfl, b1⟩
  rw [EC.out]
  go_wp2_with fail
  go_ret2
  exact ⟨rfl, b1⟩

/-- what a round of the difference keeps -/
def RSub (us vs : List Nat) (w : World) (g : Nat) (t i : Value) (wr : World) : Prop :=
  ∃ (k q : Nat) (zs : List Nat), k ≤ us.length ∧ i = .int .i64 k ∧ t = .int .u64 q ∧ q ≤ 1 ∧ zs.length = us.length ∧ Lb zs ∧ Row wr g zs ∧ Below g w wr ∧ (∀ j, k ≤ j → zs[j]?.getD 0 = 0) ∧ val zs + val (vs.take k) = val (us.take k) + Ba ^ k * q
theorem rsub_next {us vs zs : List Nat} {w wr : World} {g k q : Nat} {a : Int} {z r : Nat} (hk : k < us.length) (hl : zs.length = us.length) (hz : Lb zs) (hrow : Row wr g zs) (hbel : Below g w wr) (h0 : ∀ j, k ≤ j → zs[j]?.getD 0 = 0)
    (hv : val zs + val (vs.take k) = val (us.take k) + Ba ^ k * q) (ha : a = (z : Int)) (hzb : z < Ba) (hr : r ≤ 1) (he : z + q + vs[k]?.getD 0 = us[k]?.getD 0 + r * Ba) :
    RSub us vs w g (.int .u64 (r : Int)) (.int .i64 ((k : Int) + 1)) (wr.setCell ⟨g, k, none⟩ (.int .u32 a)) := by
  refine ⟨k + 1, r, zs.set k z, by omega, rfl, rfl, hr, by rw [List.length_set]; exact hl, hz.set _ _ hzb, hrow.put k z ha, hbel.setCell (Nat.le_refl _) _, zeros_step h0, ?_⟩
  have hr2 : r = 0 ∨ r = 1 := by omega
  rcases hr2 with rfl | rfl
  · exact sub_step_no (by omega) h0 hv (by omega)
  · exact sub_step_yes (by omega) h0 hv (by omega)

set_option maxHeartbeats 1000000 in
theorem rSub_ok (A B : Option Addr) (xs ys : List Nat) (c d : Nat) (w : World) (ha : Lim w A c xs) (hb : Lim w B d ys) (hs : xs.length ≤ 70368744177664) (ht : ys.length ≤ 70368744177664) (hge : val ys ≤ val xs) :
    Calls Try.prog 111 #[.slice A xs.length c, .slice B ys.length d] w (RetNatOk w (val xs - val ys)) := by
  have ec : 0 ≤ cmpN (val xs) (val ys) := by
    rcases Nat.lt_or_eq_of_le hge with h | h
    · rw [cmpN_gt h]; omega
    · rw [cmpN_eq h.symm]; omega
  go_enter Try.func111, Try.ntmps111
  go_wp2_with fail
  refine (rCompare_c _ _ _ _ _ _ _ ha hb hs ht).mono ?_
  rintro e w0 ⟨rfl, b0⟩
  generalize cmpN (val xs) (val ys) = z at *
  have ec' : ¬ z < 0 := by omega
  go_wp2_with fail
  refine (rTrim_c _ _ _ _ (ha.below b0) hs).mono ?_
  rintro e w1 ⟨A1, c1, rfl, r1, b1⟩
  go_wp2_with fail
  refine (rTrim_c _ _ _ _ ((hb.below b0).below b1) ht).mono ?_
  rintro e w2 ⟨A2, c2, rfl, r2, b2⟩
  have la := limbs_length_le ha.lb
  have lb := limbs_length_le hb.lb
  have hle := limbs_mono hge
  have HGE := Lib.hid hge
  have EA := Lib.hid (val_limbs (val xs))
  have EB := Lib.hid (val_limbs (val ys))
  have HB := Lib.hid ((b0.trans (b1.mono b0.size)).trans (b2.mono (Nat.le_trans b0.size b1.size)))
  clear ha hb hge
  have ha := r1.lim.below b2
  have hb := r2.lim
  clear r1 r2 b1 b2 b0
  generalize limbs (val xs) = us at *
  generalize limbs (val ys) = vs at *
  have hmk := mk_run (↑us.length) us.length rfl (by omega)
  go_wp2_with fail
  go_loopw [7, 8] (fun t i wr => RSub us vs w2 w2.heap.size t i wr) (fun _ i _ => us.length - (intOf i).toNat)
  case atStart => exact ⟨0, 0, zeros us.length, Nat.zero_le _, rfl, rfl, by omega, zeros_length _, zeros_lb _, Row.new _ _, (Below.refl _ _).alloc (Nat.le_refl _) _, fun j _ => zeros_get _ _, by simp [zeros_val, val]⟩
  case round =>
    obtain ⟨k, q, zs, hk, rfl, rfl, hq, hl, hz, hrow, hbel, h0, hv⟩ := hrel
    have HV := Lib.hid hv
    have H0 := Lib.hid h0
    have HL := Lib.hid hl
    clear hv h0 hl hmk
    by_cases hlt : k < us.length
    · obtain ⟨b1, o1, rfl, hb1, hc1⟩ := ha.at_ (by omega)
      have hx := (hbel.cell (p := ⟨b1, o1 + k, none⟩) hb1).trans (hc1 k hlt)
      have bx : us[k]?.getD 0 < 4294967296 := ha.lb.get k
      obtain ⟨x, ex⟩ : ∃ x, us[k]?.getD 0 = x := ⟨_, rfl⟩
      rw [ex] at hx bx
      have EX := Lib.hid ex
      have hs1 := hrow.cell (i := k) (by rw [HL.out]; omega)
      have hs2 := hrow.frozen k
      rw [H0.out k (Nat.le_refl _)] at hs1
      clear ex hc1
      by_cases hyk : k < vs.length
      · obtain ⟨b2, o2, rfl, hb2, hc2⟩ := hb.at_ (by omega)
        have hy := (hbel.cell (p := ⟨b2, o2 + k, none⟩) hb2).trans (hc2 k hyk)
        have bY : vs[k]?.getD 0 < 4294967296 := hb.lb.get k
        obtain ⟨y, ey⟩ : ∃ y, vs[k]?.getD 0 = y := ⟨_, rfl⟩
        rw [ey] at hy bY
        have EY := Lib.hid ey
        clear ey hc2
        by_cases hxy : x < q + y
        · have nx := @rsub_next us vs zs w2 wr w2.heap.size k q ((x : Int) + 4294967296 - ((q : Int) + y)) (x + Ba - (q + y)) 1 hlt HL.out hz hrow hbel H0.out HV.out (by have := Ba_eq; omega) (by have := Ba_eq; omega) (by omega) (by rw [EX.out, EY.out]; have := Ba_eq; omega)
          have NX := Lib.hid nx
          clear nx
          have hxy' : (x : Int) < ((q : Int) + y) := by omega
          go_wp2
          go_roundw
          case rel => exact NX.out
          case measure => simp [intOf]; omega
        · have nx := @rsub_next us vs zs w2 wr w2.heap.size k q ((x : Int) - ((q : Int) + y)) (x - (q + y)) 0 hlt HL.out hz hrow hbel H0.out HV.out (by omega) (by have := Ba_eq; omega) (by omega) (by rw [EX.out, EY.out]; omega)
          have NX := Lib.hid nx
          clear nx
          have hxy' : ¬ (x : Int) < ((q : Int) + y) := by omega
          go_wp2
          go_roundw
          case rel => exact NX.out
          case measure => simp [intOf]; omega
      · have hyk' : ¬ ((k : Int) < vs.length) := by omega
        have EY : Hid (vs[k]?.getD 0 = 0) := by
          show vs[k]?.getD 0 = 0
          rw [List.getElem?_eq_none (by omega)]; rfl
        by_cases hxy : x < q
        · have nx := @rsub_next us vs zs w2 wr w2.heap.size k q ((x : Int) + 4294967296 - (q : Int)) (x + Ba - (q)) 1 hlt HL.out hz hrow hbel H0.out HV.out (by have := Ba_eq; omega) (by have := Ba_eq; omega) (by omega) (by rw [EX.out, EY.out]; have := Ba_eq; omega)
          have NX := Lib.hid nx
          clear nx
          have hxy' : (x : Int) < (q : Int) := by omega
          go_wp2
          go_roundw
          case rel => exact NX.out
          case measure => simp [intOf]; omega
        · have nx := @rsub_next us vs zs w2 wr w2.heap.size k q ((x : Int) - (q : Int)) (x - (q)) 0 hlt HL.out hz hrow hbel H0.out HV.out (by omega) (by have := Ba_eq; omega) (by omega) (by rw [EX.out, EY.out]; omega)
          have NX := Lib.hid nx
          clear nx
          have hxy' : ¬ (x : Int) < (q : Int) := by omega
          go_wp2
          go_roundw
          case rel => exact NX.out
          case measure => simp [intOf]; omega
    · obtain rfl : k = us.length := by omega
      have hval : val zs = val xs - val ys := by
        rw [← EA.out, ← EB.out]
        have := HV.out
        rw [List.take_of_length_le (Nat.le_refl _), List.take_of_length_le (by omega)] at this
        exact sub_end hz HL.out (by rw [EA.out, EB.out]; exact HGE.out) this
      have HVAL := Lib.hid hval
      clear hval
      have hown := hrow.own hz (Nat.le_refl _) (by have := HL.out; omega)
      go_wp2_with fail
      have e1 := HL.out
      rw [← e1]
      clear e1
      refine (rTrim_c _ zs _ _ hown.lim (by have := HL.out; omega)).mono ?_
      rintro e w' ⟨A', c', rfl, r3, r4⟩
      rw [HVAL.out] at r3 ⊢
      go_wp2
      go_ret2
      exact ⟨A', c', rfl, r3.mono (Nat.le_trans HB.out.size hbel.size), (HB.out.trans (hbel.mono HB.out.size)).trans (r4.mono (Nat.le_trans HB.out.size hbel.size))⟩

set_option maxHeartbeats 1000000 in
theorem rMul_c (A B : Option Addr) (us vs : List Nat) (c d : Nat) (w : World) (ha : Lim w A c us) (hb : Lim w B d vs) (hs : us.length + vs.length ≤ 70368744177664) :
    Calls Try.prog 96 #[.slice A us.length c, .slice B vs.length d] w (RetNat w (val us * val vs)) := by
  have hmk := mk_run (↑us.length + ↑vs.length) (us.length + vs.length) (by omega) (by omega)
  go_enter Try.func96, Try.ntmps96
  go_wp2_with fail
  go_loopw [6] (fun i wr => ∃ (k : Nat) (ps : List Nat), k ≤ us.length ∧ i = .int .i64 k ∧ ps.length = us.length + vs.length ∧ Lb ps ∧ Row wr w.heap.size ps ∧ Below w.heap.size w wr ∧ (∀ j, k + vs.length ≤ j → ps[j]?.getD 0 = 0) ∧ val ps = val (us.take k) * val vs) (fun i _ => us.length - (intOf i).toNat)
  case atStart => exact ⟨0, zeros (us.length + vs.length), Nat.zero_le _, rfl, zeros_length _, zeros_lb _, Row.new _ _, (Below.refl _ _).alloc (Nat.le_refl _) _, fun j _ => zeros_get _ _, by simp [zeros_val, val]⟩
  case round =>
    obtain ⟨k, ps, hk, rfl, hl, hz, hrow, hbel, h0, hv⟩ := hrel
    have HV := Lib.hid hv
    have H0 := Lib.hid h0
    have HL := Lib.hid hl
    clear hv h0 hl hmk
    by_cases hlt : k < us.length
    · obtain ⟨b1, o1, rfl, hb1, hc1⟩ := ha.at_ (by omega)
      have hx0 := hc1 k hlt
      have bx : us[k]?.getD 0 < 4294967296 := ha.lb.get k
      have hts := val_take_succ (xs := us) hlt
      obtain ⟨x, ex⟩ : ∃ x, us[k]?.getD 0 = x := ⟨_, rfl⟩
      rw [ex] at hx0 bx hts
      have HTS := Lib.hid hts
      have HX0 := Lib.hid hx0
      clear ex hc1 hts hx0
      obtain ⟨wo, rfl⟩ : ∃ wo : World, wo = wr := ⟨_, rfl⟩
      go_wp2
      go_loopw [7, 8] (fun t i wi => ∃ (j q : Nat) (zs : List Nat), j ≤ vs.length ∧ i = .int .i64 j ∧ t = .int .u64 q ∧ q < 4294967296 ∧ zs.length = us.length + vs.length ∧ Lb zs ∧ Row wi w.heap.size zs ∧ Below w.heap.size w wi ∧ (∀ n, k + j ≤ n → zs[n]?.getD 0 = ps[n]?.getD 0) ∧ val zs + Ba ^ (k + j) * q = val ps + x * Ba ^ k * val (vs.take j)) (fun _ i _ => vs.length - (intOf i).toNat)
      case atStart => exact ⟨0, 0, ps, Nat.zero_le _, rfl, rfl, by omega, HL.out, hz, hrow, hbel, fun n _ => rfl, by simp [val]⟩
      case round =>
        obtain ⟨j, q, zs, hj, rfl, rfl, hq, hl2, hz2, hrow2, hbel2, hsame, hv2⟩ := hrel
        have HV2 := Lib.hid hv2
        have HS2 := Lib.hid hsame
        have HL2 := Lib.hid hl2
        clear hv2 hsame hl2
        by_cases hlt2 : j < vs.length
        · obtain ⟨b2, o2, rfl, hb2, hc2⟩ := hb.at_ (by omega)
          have hx := (hbel2.cell (p := ⟨b1, o1 + k, none⟩) hb1).trans HX0.out
          have hy := (hbel2.cell (p := ⟨b2, o2 + j, none⟩) hb2).trans (hc2 j hlt2)
          have bY : vs[j]?.getD 0 < 4294967296 := hb.lb.get j
          have hzc := hrow2.cell (i := k + j) (by rw [HL2.out]; omega)
          have hzf := hrow2.frozen (k + j)
          have bz : zs[k + j]?.getD 0 < 4294967296 := hz2.get (k + j)
          have hstep := mul_step (ys := vs) (zs := zs) (i := k) (j := j) (c := q) (x := x) (T := val ps) (by rw [HL2.out]; omega) HV2.out
          obtain ⟨y, ey⟩ : ∃ y, vs[j]?.getD 0 = y := ⟨_, rfl⟩
          obtain ⟨z, ez⟩ : ∃ z, zs[k + j]?.getD 0 = z := ⟨_, rfl⟩
          rw [ey] at hy bY hstep
          rw [ez] at hzc bz hstep
          have hpb := Nat.mul_le_mul (Nat.le_pred_of_lt bx) (Nat.le_pred_of_lt bY)
          have hpe : (x : Int) * (y : Int) = ((x * y : Nat) : Int) := (Int.natCast_mul x y).symm
          obtain ⟨p, ep⟩ : ∃ p, x * y = p := ⟨_, rfl⟩
          rw [ep] at hpe hpb hstep
          have hpb' : p ≤ 18446744065119617025 := hpb
          have EPQ : Hid (q + p + z = q + (z + p)) := by show q + p + z = q + (z + p); omega
          rw [EPQ.out] at hstep
          have HST := Lib.hid hstep
          have HPE := Lib.hid hpe
          clear ey ez ep hc2 hpb hstep hpe
          have hpe : (x : Int) * (y : Int) = (p : Int) := HPE.out
          have g1 : (0 : Int) ≤ (k : Int) + j := by omega
          have g2 : (k : Int) + j < us.length + vs.length := by omega
          have g3 : ((k : Int) + j).toNat = k + j := by omega
          have g4 : IntKind.i64.wrap ((k : Int) + j) = (k : Int) + j := IntWalk.i64_in _ (by omega)
          have g5 : IntKind.u64.wrap (p : Int) = (p : Int) := by rw [IntKind.wrap_u64]; omega
          have g6 : IntKind.u64.wrap ((z : Int) + p) = (z : Int) + p := by rw [IntKind.wrap_u64]; omega
          have g7 : IntKind.u64.wrap ((q : Int) + ((z : Int) + p)) = (q : Int) + ((z : Int) + p) := by rw [IntKind.wrap_u64]; omega
          have g8 : (0 : Int) ≤ (k : Int) := by omega
          have g9 : (k : Int) < us.length := by omega
          have g10 : (0 : Int) ≤ (j : Int) := by omega
          have g11 : (j : Int) < vs.length := by omega
          go_wp2
          go_quiet (fail)
          clear g1 g2 g3 g4 g5 g6 g7 g8 g9 g10 g11
          go_wp2
          go_roundw
          case rel => exact ⟨j + 1, (q + (z + p)) / Ba, zs.set (k + j) ((q + (z + p)) % Ba), by omega, by go_num, by simp only [Ba_eq]; go_num, by simp only [Ba_eq]; omega, by rw [List.length_set]; exact HL2.out, hz2.set _ _ (Nat.mod_lt _ Ba_pos), (hrow2.drewN _).put (k + j) _ (by simp only [Ba_eq]; omega), (below_drewN hbel2 _).setCell (Nat.le_refl _) _, fun n hn => by rw [get_set_ne _ (by omega)]; exact HS2.out n (by omega), HST.out⟩
          case measure => simp [intOf]; omega
        · obtain rfl : j = vs.length := by omega
          have hs1 := hrow2.cell (i := k + vs.length) (by rw [HL2.out]; omega)
          have hs2 := hrow2.frozen (k + vs.length)
          have ez : zs[k + vs.length]?.getD 0 = 0 := by rw [HS2.out _ (Nat.le_refl _)]; exact H0.out _ (Nat.le_refl _)
          rw [ez] at hs1
          have hr := hrow2.put (k + vs.length) q (z := (q : Int)) rfl
          have e3 := val_set (zs := zs) (k := k + vs.length) q (by rw [HL2.out]; omega)
          rw [ez] at e3
          have hval : val (zs.set (k + vs.length) q) = val (us.take (k + 1)) * val vs := by
            have h1 := HV2.out
            rw [List.take_of_length_le (Nat.le_refl _), HV.out] at h1
            rw [HTS.out]
            grind
          have HVAL := Lib.hid hval
          clear ez e3 hval
          go_wp2
          go_roundw
          case rel => exact ⟨k + 1, zs.set (k + vs.length) q, by omega, by go_num, by rw [List.length_set]; exact HL2.out, hz2.set _ _ (by have := Ba_eq; omega), hr, hbel2.setCell (Nat.le_refl _) _, fun n hn => by rw [get_set_ne _ (by omega), HS2.out n (by omega)]; exact H0.out n (by omega), HVAL.out⟩
          case measure => simp [intOf]; omega
    · obtain rfl : k = us.length := by omega
      have hval : val ps = val us * val vs := by
        rw [HV.out, List.take_of_length_le (Nat.le_refl _)]
      have HVAL := Lib.hid hval
      clear hval
      have hown := hrow.own hz (Nat.le_refl _) (by have := HL.out; omega)
      go_wp2_with fail
      have e1 := HL.out
      rw [← e1]
      clear e1
      refine (rTrim_c _ ps _ _ hown.lim (by have := HL.out; omega)).mono ?_
      rintro e w' ⟨A', c', rfl, r3, r4⟩
      rw [HVAL.out] at r3 ⊢
      go_wp2
      go_ret
      exact ⟨A', c', rfl, r3.mono hbel.size, hbel.trans (r4.mono hbel.size)⟩

end Go.Proofs.Ytkpchamgghhihaa
