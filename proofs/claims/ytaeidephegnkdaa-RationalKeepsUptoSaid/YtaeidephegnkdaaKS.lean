/- rational.Sum of a list of one number. -/
import Derived.Test.YtaeidephegnkdaaRq
namespace Go.Proofs.Ytaeidephegnkdaa
open Go.RowKit Gm

set_option maxRecDepth 100000 in
set_option maxHeartbeats 2000000 in
theorem RSum1 {w : World} {g : Nat} {b s t : Value} {r q : Rat} {K : Nat} (hx : IsRat w b s t r K) (hc : Bx3 w g b s t) (hK : K ≤ 1099511627776) (e : 0 + r = q) :
    Calls Try.prog 28 #[.slice (some ⟨g, 0, none⟩) 1 1] w (RetR w q) := by
  have hg := hc.lt
  have c0 := hc.c0
  have c1 := hc.c1
  have c2 := hc.c2
  clear hc
  obtain ⟨W, hW, hbW, i0⟩ : ∃ W, w.alloc (.cells #[.bool false, .slice none 0 0, .slice none 0 0] 26) = W ∧ Below w.heap.size w W ∧ Bx3 W w.heap.size (.bool false) (.slice none 0 0) (.slice none 0 0) := ⟨_, rfl, bel1 _ _, Bx3.new _ _ _ _⟩
  have ji0 := i0.lt
  have HW := Lib.hid hW
  have E := Lib.hid e
  have E0 := Lib.hid (show mkRat 0 1 = (0 : Rat) from rfl)
  clear hW e
  go_enter Try.func28, Try.ntmps28
  go_wp2_with fail
  rw [HW.out]
  refine (RFromInt_v (by omega) (by omega) E0.out).mono ?_
  rintro e w1 ⟨b1, s1, t1, rfl, o1, g1⟩
  obtain ⟨w2, hw2⟩ : ∃ w2, w1.alloc (.cells #[b1, s1, t1] 26) = w2 := ⟨_, rfl⟩
  have i1 : Bx3 w2 w1.heap.size b1 s1 t1 := by rw [← hw2]; exact Bx3.new _ _ _ _
  have g2 : Below w1.heap.size w1 w2 := by rw [← hw2]; exact bel1 _ _
  obtain ⟨q0, q1, q2⟩ := o1.st
  have g12 := g1.trans (g2.mono g1.size)
  have hb2 := hbW.trans (g12.mono hbW.size)
  have i0' := i0.keep g12
  have o2 := (o1.mono hbW.size).keep g2
  have nN : w.heap.size < w1.heap.size := Nat.lt_of_lt_of_le ji0 g1.size
  obtain ⟨N, eN⟩ : ∃ N, w1.heap.size = N := ⟨_, rfl⟩
  have HW2 := Lib.hid hw2
  clear hw2 i0 o1 g1 g2 g12 hbW HW
  go_wp2_with fail
  rw [HW2.out]
  rw [eN] at i1 nN
  try rw [eN]
  clear eN HW2 q0 q1 q2
  go_loopw [9] (fun v wr => ∃ k : Nat, v = .int .i64 (k : Int) ∧ ∃ b' s' t' q', (k = 0 ∧ q' = 0 ∨ k = 1 ∧ q' = q) ∧ Bx3 wr N b' s' t' ∧ OwRat w.heap.size wr b' s' t' q' ∧ Bx3 wr w.heap.size (.bool false) (.slice none 0 0) (.slice none 0 0) ∧ Below w.heap.size w wr) (fun v _ => 1 - (intOf v).toNat)
  case atStart => exact ⟨0, rfl, b1, s1, t1, 0, .inl ⟨rfl, rfl⟩, i1, o2, i0', hb2⟩
  case round =>
    clear i1 o2 i0' hb2
    obtain ⟨k, rfl, b', s', t', q', hk, i1, o2, i0', hb2⟩ := hrel
    rcases hk with ⟨rfl, rfl⟩ | ⟨rfl, rfl⟩
    · have hx2 := hx.keep hb2
      have d0 := cellB hb2 hg c0
      have d1 := cellB hb2 hg c1
      have d2 := cellB hb2 hg c2
      have bo := bel1 wr (.cells #[b, s, t] 26)
      have i5 := Bx3.new wr b s t
      have i1' := i1.keep bo
      have i0'' := i0'.keep bo
      have hx3 := (hx2.keep bo)
      have o3 := (o2.keep bo).is (sz_zero (K := K) hx2.one)
      obtain ⟨q0, q1, q2⟩ := hx2.st
      obtain ⟨u0, u1, u2, u3, u4, u5⟩ := id i1'
      obtain ⟨v0, v1, v2, v3, v4, v5⟩ := id i5
      have hb3 := hb2.trans (bo.mono hb2.size)
      have hnol := o2.nol
      clear hx hx2 c0 c1 c2 o2 i5 i1 i0' bo
      go_wp2_with fail
      refine (RAdd_v o3 hx3 hK E.out).mono ?_
      rintro e w3 ⟨b3, s3, t3, rfl, o4, g3⟩
      have i1 := i1'.keep g3
      have i0' := i0''.keep g3
      obtain ⟨y0, y1, y2, y3, y4, y5⟩ := id i1
      obtain ⟨z0, z1, z2⟩ := o4.st
      have hb4 := hb3.trans (g3.mono hb3.size)
      have HR := Lib.hid (show Bx3 (((w3.setCell ⟨N, 0, none⟩ b3).setCell ⟨N, 1, none⟩ s3).setCell ⟨N, 2, none⟩ t3) N b3 s3 t3 ∧ OwRat w.heap.size (((w3.setCell ⟨N, 0, none⟩ b3).setCell ⟨N, 1, none⟩ s3).setCell ⟨N, 2, none⟩ t3) b3 s3 t3 q ∧ Bx3 (((w3.setCell ⟨N, 0, none⟩ b3).setCell ⟨N, 1, none⟩ s3).setCell ⟨N, 2, none⟩ t3) w.heap.size (.bool false) (.slice none 0 0) (.slice none 0 0) ∧ Below w.heap.size w (((w3.setCell ⟨N, 0, none⟩ b3).setCell ⟨N, 1, none⟩ s3).setCell ⟨N, 2, none⟩ t3) from ⟨i1.put _ _ _, (o4.mono hb3.size).put3 i1 hnol _ _ _, i0'.far3 (by omega) _ _ _, below_put3 hb4 (by omega) _ _ _⟩)
      clear o4 i1 i0' i1' i0'' hx3 o3
      go_wp2_with fail
      go_roundw
      case rel => exact ⟨1, rfl, b3, s3, t3, q, .inr ⟨rfl, rfl⟩, HR.out⟩
      case measure => simp [intOf]
    · obtain ⟨y0, y1, y2, y3, y4, y5⟩ := id i1
      obtain ⟨z0, z1, z2, z3, z4, z5⟩ := id i0'
      obtain ⟨q0, q1, q2⟩ := o2.st
      have HRET := Lib.hid (ret_r (w := w) i0' (Nat.le_refl _) o2 (Nat.le_refl _) hb2)
      clear o2 i1 i0' hx
      go_wp2_with fail
      exact bodyPost_ret (v := .agg #[b', s', t']) (by simp [results, Try.results28, go_sem, z0, z1, z2]) rfl HRET.out
end Go.Proofs.Ytaeidephegnkdaa
