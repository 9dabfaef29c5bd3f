/- Contracts of package integer: numbers of the language. -/
import Derived.Test.YtkoehkadhjjmoaaRefF
namespace Go.Proofs.Ytkoehkadhjjmoaa
open Go.RowKit Gm

set_option maxHeartbeats 400000 in
theorem FromInt_c (v : Int) (w : World) (h1 : -9223372036854775808 ≤ v) (h2 : v ≤ 9223372036854775807) :
    Calls Try.prog 41 #[.int .i64 v] w (RetInt w v) := by
  have hB : Ba * Ba = 18446744073709551616 := by decide
  obtain ⟨W, hW, hbW, hsz, kr⟩ := one_box w (.bool false) (.slice none 0 0)
  have hz : w.heap.size + 1 ≤ W.heap.size := by omega
  clear hsz
  have HW := Lib.hid hW
  clear hW
  by_cases h0 : v < 0
  · obtain ⟨m, hm⟩ : ∃ m : Nat, -v = (m : Int) := ⟨(-v).toNat, by omega⟩
    have hm2 : m < Ba * Ba := by omega
    have HM := Lib.hid hm
    clear hm hB
    go_enter Try.func41, Try.ntmps41
    go_wp2_with fail
    rw [HW.out, show IntKind.u64.wrap (-IntKind.u64.wrap v) = (m : Int) from by rw [IntKind.wrap_u64, IntKind.wrap_u64]; have := HM.out; omega]
    refine (FromUint64_c m _ hm2).mono ?_
    rintro e w1 ⟨A1, c1, rfl, r3, bw1⟩
    obtain ⟨m1, m2, m3, m4⟩ := keepR bw1 (show w.heap.size < W.heap.size by omega) kr
    go_wp2_with fail
    refine (signed_c true A1 _ c1 _).mono ?_
    rintro e w2 ⟨rfl, bw2⟩
    obtain ⟨n1, n2, n3, n4⟩ := keepR bw2 (Nat.lt_of_lt_of_le (show w.heap.size < W.heap.size by omega) bw1.size) ⟨m1, m2, m3, m4⟩
    have hbw : Below w.heap.size w w2 := (hbW.trans (bw1.mono (show w.heap.size ≤ W.heap.size by omega))).trans (bw2.mono (Nat.le_trans (show w.heap.size ≤ W.heap.size by omega) bw1.size))
    have hown := ((r3.below bw2).put2 (N := w.heap.size) (show w.heap.size < W.heap.size by omega) (.bool (true && decide (0 < (limbs m).length))) (.slice A1 (limbs m).length c1)).mono (show w.heap.size ≤ W.heap.size by omega)
    have hret := ret_signed (p := true) (n := v) (by unfold mkI; have := HM.out; simp; omega) hown (below_put2 hbw (Nat.le_refl _) _ _)
    clear hown hbw r3 bw1 bw2 hbW kr m1 m2 m3 m4
    have hlp : (true && decide (0 < (limbs m).length)) = true := by
      have : limbs m ≠ [] := fun e => by have := limbs_eq_nil.1 e; have := HM.out; omega
      simp [List.length_pos_iff, this]
    rw [hlp] at hret ⊢
    clear hlp
    go_wp2
    exact bodyPost_ret (v := .agg #[.bool true, .slice A1 (limbs m).length c1]) (by simp [results, Try.results41, go_sem, n1, n2]) rfl hret
  · obtain ⟨m, hm⟩ : ∃ m : Nat, v = (m : Int) := ⟨v.toNat, by omega⟩
    have hm2 : m < Ba * Ba := by omega
    have HM := Lib.hid hm
    clear hm hB
    go_enter Try.func41, Try.ntmps41
    go_wp2_with fail
    rw [HW.out, show v = (m : Int) from by exact HM.out]
    refine (FromUint64_c m _ hm2).mono ?_
    rintro e w1 ⟨A1, c1, rfl, r3, bw1⟩
    obtain ⟨m1, m2, m3, m4⟩ := keepR bw1 (show w.heap.size < W.heap.size by omega) kr
    go_wp2_with fail
    refine (signed_c false A1 _ c1 _).mono ?_
    rintro e w2 ⟨rfl, bw2⟩
    obtain ⟨n1, n2, n3, n4⟩ := keepR bw2 (Nat.lt_of_lt_of_le (show w.heap.size < W.heap.size by omega) bw1.size) ⟨m1, m2, m3, m4⟩
    have hbw : Below w.heap.size w w2 := (hbW.trans (bw1.mono (show w.heap.size ≤ W.heap.size by omega))).trans (bw2.mono (Nat.le_trans (show w.heap.size ≤ W.heap.size by omega) bw1.size))
    have hown := ((r3.below bw2).put2 (N := w.heap.size) (show w.heap.size < W.heap.size by omega) (.bool (false && decide (0 < (limbs m).length))) (.slice A1 (limbs m).length c1)).mono (show w.heap.size ≤ W.heap.size by omega)
    have hret := ret_signed (p := false) (n := v) (by unfold mkI; have := HM.out; simp; omega) hown (below_put2 hbw (Nat.le_refl _) _ _)
    clear hown hbw r3 bw1 bw2 hbW kr m1 m2 m3 m4
    rw [Bool.false_and] at hret ⊢
    go_wp2
    exact bodyPost_ret (v := .agg #[.bool false, .slice A1 (limbs m).length c1]) (by simp [results, Try.results41, go_sem, n1, n2]) rfl hret

/-- does an integer fit into an int -/
def fits (n : Int) : Bool := decide (-9223372036854775808 ≤ n ∧ n ≤ 9223372036854775807)
/-- what Value returns -/
def RetVal (w : World) (n : Int) (e : Ending) (w' : World) : Prop := e = .returned (.tuple #[.int .i64 (if fits n then n else 0), .bool (fits n)]) ∧ Below w.heap.size w w'
theorem retval_yes {w w' : World} {n : Int} (h : -9223372036854775808 ≤ n ∧ n ≤ 9223372036854775807) (hb : Below w.heap.size w w') : RetVal w n (.returned (.tuple #[.int .i64 n, .bool true])) w' := by
  have : fits n = true := decide_eq_true h
  exact ⟨by rw [this]; rfl, hb⟩
theorem retval_no {w w' : World} {n : Int} (h : ¬ (-9223372036854775808 ≤ n ∧ n ≤ 9223372036854775807)) (hb : Below w.heap.size w w') : RetVal w n (.returned (.tuple #[.int .i64 0, .bool false])) w' := by
  have : fits n = false := decide_eq_false h
  exact ⟨by rw [this]; rfl, hb⟩

set_option maxRecDepth 100000 in
set_option maxHeartbeats 1000000 in
theorem Value_c (p : Bool) (A : Option Addr) (xs : List Nat) (c : Nat) (w : World) (h : Lim w A c xs) :
    Calls Try.prog 39 #[.agg #[.bool p, .slice A xs.length c]] w (RetVal w (iv p xs)) := by
  have hB : Ba * Ba = 18446744073709551616 := by decide
  have hb1 : Below w.heap.size w (w.alloc (.cells #[.bool p, .slice A xs.length c] 24)) := (Below.refl _ _).alloc (Nat.le_refl _) _
  have YES := Lib.hid (fun h => @retval_yes w _ (iv p xs) h hb1)
  have NO := Lib.hid (fun h => @retval_no w _ (iv p xs) h hb1)
  by_cases hbig : val xs < 18446744073709551616
  · have hu := Lib.hid (Uint64_yes A xs c _ (h.below hb1) (by rw [hB]; exact hbig))
    clear hB hb1 h
    generalize hv : val xs = v at *
    have HV := Lib.hid hv
    clear hv
    cases p
    · by_cases hs : v < 9223372036854775808
      · have hw : wrap64 (v : Int) = (v : Int) := IntWalk.wrap64_in _ ⟨by omega, by omega⟩
        have HWW := Lib.hid hw
        clear hw
        have hdec : decide ((v : Int) < 9223372036854775808) = true := by rw [decide_eq_true_eq]; omega
        have Y := Lib.hid (YES.out (by unfold iv; rw [HV.out]; simp; omega))
        have EV := Lib.hid (show iv false xs = (v : Int) from by unfold iv; rw [HV.out]; simp)
        have HSS := Lib.hid hs
        have HBB := Lib.hid hbig
        clear hs hbig
        go_enter Try.func39, Try.ntmps39
        go_wp2_with fail
        refine hu.out.mono ?_
        rintro e w' ⟨rfl, rfl⟩
        go_wp2_with fail
        go_ret2
        have y := Y.out
        rw [EV.out] at y ⊢
        have y2 : RetVal w (v : Int) (.returned (.tuple #[.int .i64 (wrap64 (v : Int)), .bool true])) (w.alloc (.cells #[.bool false, .slice A xs.length c] 24)) := by rw [HWW.out]; exact y
        exact y2
      · have hdec : decide ((v : Int) < 9223372036854775808) = false := by rw [decide_eq_false_iff_not]; omega
        have N := Lib.hid (NO.out (by unfold iv; rw [HV.out]; simp; omega))
        have HSS := Lib.hid hs
        have HBB := Lib.hid hbig
        clear hs hbig
        go_enter Try.func39, Try.ntmps39
        go_wp2_with fail
        refine hu.out.mono ?_
        rintro e w' ⟨rfl, rfl⟩
        go_wp2_with fail
        all_goals (go_ret2; exact N.out)
    · by_cases hs : v ≤ 9223372036854775808
      · have hw : wrap64 (IntKind.u64.wrap (-(v : Int))) = -(v : Int) := by
          rw [IntKind.wrap_u64]; unfold wrap64; omega
        have Y := Lib.hid (YES.out (by unfold iv; rw [HV.out]; simp; omega))
        have EV := Lib.hid (show iv true xs = -(v : Int) from by unfold iv; rw [HV.out]; simp)
        have HW := Lib.hid hw
        clear hw
        go_enter Try.func39, Try.ntmps39
        go_wp2_with fail
        refine hu.out.mono ?_
        rintro e w' ⟨rfl, rfl⟩
        go_wp2_with fail
        go_ret2
        have y := Y.out
        rw [EV.out] at y ⊢
        have y2 : RetVal w (-(v : Int)) (.returned (.tuple #[.int .i64 (wrap64 (IntKind.u64.wrap (-(v : Int)))), .bool true])) (w.alloc (.cells #[.bool true, .slice A xs.length c] 24)) := by rw [HW.out]; exact y
        exact y2
      · have hs' : ¬ (v : Int) ≤ 9223372036854775808 := by omega
        have N := Lib.hid (NO.out (by unfold iv; rw [HV.out]; simp; omega))
        go_enter Try.func39, Try.ntmps39
        go_wp2_with fail
        refine hu.out.mono ?_
        rintro e w' ⟨rfl, rfl⟩
        go_wp2_with fail
        all_goals (go_ret2; exact N.out)
  · have hu := Lib.hid (Uint64_no A xs c _ (h.below hb1) (by rw [hB]; omega))
    have N := Lib.hid (NO.out (by unfold iv; cases p <;> simp <;> omega))
    clear hB hb1 h hbig
    go_enter Try.func39, Try.ntmps39
    go_wp2_with fail
    refine hu.out.mono ?_
    rintro e w' ⟨rfl, rfl⟩
    go_wp2_with fail
    go_ret2
    exact N.out

end Go.Proofs.Ytkoehkadhjjmoaa
