/- Contracts of package integer: numbers of the language. -/
import Derived.Test.YtkpchamgghhihaaRefF
namespace Go.Proofs.Ytkpchamgghhihaa
open Go.RowKit Gm

set_option maxHeartbeats 400000 in
theorem FromInt_c (v : Int) (w : World) (h1 : -9223372036854775808 ≤ v) (h2 : v ≤ 9223372036854775807) :
    Calls Try.prog 78 #[.int .i64 v] w (RetInt w v) := by
  have hB : Ba * Ba = 18446744073709551616 := by decide
  obtain ⟨W, hW, hbW, hsz, kr⟩ := one_box w (.bool false) (.slice none 0 0)
  have hz : w.heap.size + 1 ≤ W.heap.size := by omega
  clear hsz
  have HW := Lib.hid hW
  clear hW
  by_cases h0 : v < 0
  · obtain ⟨m, hm⟩ : ∃ m : Nat, -v = (m : Int) := ⟨(-v).toNat, by omega⟩
    have hm2 : m < Ba * Ba := by omega
    have HM := Lib.hid hm
    clear hm hB
    go_enter Try.func78, Try.ntmps78
    go_wp2_with fail
    rw [HW.out, show IntKind.u64.wrap (-IntKind.u64.wrap v) = (m : Int) from by rw [IntKind.wrap_u64, IntKind.wrap_u64]; have := HM.out; omega]
    refine (FromUint64_c m _ hm2).mono ?_
    rintro e w1 ⟨A1, c1, rfl, r3, bw1⟩
    obtain ⟨m1, m2, m3, m4⟩ := keepR bw1 (show w.heap.size < W.heap.size by omega) kr
    go_wp2_with fail
    refine (signed_c true A1 _ c1 _).mono ?_
    rintro e w2 ⟨rfl, bw2⟩
    obtain ⟨n1, n2, n3, n4⟩ := keepR bw2 (Nat.lt_of_lt_of_le (show w.heap.size < W.heap.size by omega) bw1.size) ⟨m1, m2, m3, m4⟩
    have hbw : Below w.heap.size w w2 := (hbW.trans (bw1.mono (show w.heap.size ≤ W.heap.size by omega))).trans (bw2.mono (Nat.le_trans (show w.heap.size ≤ W.heap.size by omega) bw1.size))
    have hown := ((r3.below bw2).put2 (N := w.heap.size) (show w.heap.size < W.heap.size by omega) (.bool (true && decide (0 < (limbs m).length))) (.slice A1 (limbs m).length c1)).mono (show w.heap.size ≤ W.heap.size by omega)
    have hret := ret_signed (p := true) (n := v) (by unfold mkI; have := HM.out; simp; omega) hown (below_put2 hbw (Nat.le_refl _) _ _)
    clear hown hbw r3 bw1 bw2 hbW kr m1 m2 m3 m4
    have hlp : (true && decide (0 < (limbs m).length)) = true := by
      have : limbs m ≠ [] := fun e => by have := limbs_eq_nil.1 e; have := HM.out; omega
      simp [List.length_pos_iff, this]
    rw [hlp] at hret ⊢
    clear hlp
    go_wp2
    exact bodyPost_ret (v := .agg #[.bool true, .slice A1 (limbs m).length c1]) (by simp [results, Try.results78, go_sem, n1, n2]) rfl hret
  · obtain ⟨m, hm⟩ : ∃ m : Nat, v = (m : Int) := ⟨v.toNat, by omega⟩
    have hm2 : m < Ba * Ba := by omega
    have HM := Lib.hid hm
    clear hm hB
    go_enter Try.func78, Try.ntmps78
    go_wp2_with fail
    rw [HW.out, show v = (m : Int) from by exact HM.out]
    refine (FromUint64_c m _ hm2).mono ?_
    rintro e w1 ⟨A1, c1, rfl, r3, bw1⟩
    obtain ⟨m1, m2, m3, m4⟩ := keepR bw1 (show w.heap.size < W.heap.size by omega) kr
    go_wp2_with fail
    refine (signed_c false A1 _ c1 _).mono ?_
    rintro e w2 ⟨rfl, bw2⟩
    obtain ⟨n1, n2, n3, n4⟩ := keepR bw2 (Nat.lt_of_lt_of_le (show w.heap.size < W.heap.size by omega) bw1.size) ⟨m1, m2, m3, m4⟩
    have hbw : Below w.heap.size w w2 := (hbW.trans (bw1.mono (show w.heap.size ≤ W.heap.size by omega))).trans (bw2.mono (Nat.le_trans (show w.heap.size ≤ W.heap.size by omega) bw1.size))
    have hown := ((r3.below bw2).put2 (N := w.heap.size) (show w.heap.size < W.heap.size by omega) (.bool (false && decide (0 < (limbs m).length))) (.slice A1 (limbs m).length c1)).mono (show w.heap.size ≤ W.heap.size by omega)
    have hret := ret_signed (p := false) (n := v) (by unfold mkI; have := HM.out; simp; omega) hown (below_put2 hbw (Nat.le_refl _) _ _)
    clear hown hbw r3 bw1 bw2 hbW kr m1 m2 m3 m4
    rw [Bool.false_and] at hret ⊢
    go_wp2
    exact bodyPost_ret (v := .agg #[.bool false, .slice A1 (limbs m).length c1]) (by simp [results, Try.results78, go_sem, n1, n2]) rfl hret

/-- does an integer fit into an int -/
def fits (n : Int) : Bool := decide (-9223372036854775808 ≤ n ∧ n ≤ 9223372036854775807)
/-- what Value returns -/
def RetVal (w : World) (n : Int) (e : Ending) (w' : World) : Prop := e = .returned (.tuple #[.int .i64 (if fits n then n else 0), .bool (fits n)]) ∧ Below w.heap.size w w'
theorem retval_yes {w w' : World} {n : Int} (h : -9223372036854775808 ≤ n ∧ n ≤ 9223372036854775807) (hb : Below w.heap.size w w') : RetVal w n (.returned (.tuple #[.int .i64 n, .bool true])) w' := by
  have : fits n = true := decide_eq_true h
  exact ⟨by rw [this]; rfl, hb⟩
theorem retval_no {w w' : World} {n : Int} (h : ¬ (-9223372036854775808 ≤ n ∧ n ≤ 9223372036854775807)) (hb : Below w.heap.size w w') : RetVal w n (.returned (.tuple #[.int .i64 0, .bool false])) w' := by
  have : fits n = false := decide_eq_false h
  exact ⟨by rw [this]; rfl, hb⟩

end Go.Proofs.Ytkpchamgghhihaa
