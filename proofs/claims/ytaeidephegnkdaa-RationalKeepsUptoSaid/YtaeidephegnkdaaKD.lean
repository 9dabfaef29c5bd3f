/- rational.Dot of two lists of one number. -/
import Derived.Test.YtaeidephegnkdaaRq
namespace Go.Proofs.Ytaeidephegnkdaa
open Go.RowKit Gm

set_option maxRecDepth 100000 in
set_option maxHeartbeats 4000000 in
theorem RDot1 {w : World} {g h : Nat} {b s t b0 s0 t0 : Value} {r r0 m q : Rat} {K : Nat} (hx : IsRat w b s t r K) (hy : IsRat w b0 s0 t0 r0 K) (hc : Bx3 w g b s t) (hd : Bx3 w h b0 s0 t0) (hK : K ≤ 4294967296) (em : r * r0 = m) (e : 0 + m = q) :
    Calls Try.prog 20 #[.slice (some ⟨g, 0, none⟩) 1 1, .slice (some ⟨h, 0, none⟩) 1 1] w (RetRY w q) := by
  have hg := hc.lt
  have c0 := hc.c0
  have c1 := hc.c1
  have c2 := hc.c2
  have hh := hd.lt
  have d0 := hd.c0
  have d1 := hd.c1
  have d2 := hd.c2
  clear hc hd
  have zm : Sz m (K + K) := Sz.mul hx.sz hy.sz em (Nat.le_refl _)
  obtain ⟨W, hW, hbW, i0⟩ : ∃ W, w.alloc (.cells #[.bool false, .slice none 0 0, .slice none 0 0] 26) = W ∧ Below w.heap.size w W ∧ Bx3 W w.heap.size (.bool false) (.slice none 0 0) (.slice none 0 0) := ⟨_, rfl, bel1 _ _, Bx3.new _ _ _ _⟩
  have ji0 := i0.lt
  have HW := Lib.hid hW
  have E := Lib.hid e
  have EM := Lib.hid em
  have E0 := Lib.hid (show mkRat 0 1 = (0 : Rat) from rfl)
  clear hW e em
  go_enter Try.func20, Try.ntmps20
  go_wp2_with fail
  rw [HW.out]
  refine (RFromInt_v (by omega) (by omega) E0.out).mono ?_
  rintro e w1 ⟨b1, s1, t1, rfl, o1, g1⟩
  obtain ⟨w2, hw2⟩ : ∃ w2, w1.alloc (.cells #[b1, s1, t1] 26) = w2 := ⟨_, rfl⟩
  have i1 : Bx3 w2 w1.heap.size b1 s1 t1 := by rw [← hw2]; exact Bx3.new _ _ _ _
  have g2 : Below w1.heap.size w1 w2 := by rw [← hw2]; exact bel1 _ _
  obtain ⟨q0, q1, q2⟩ := o1.st
  have g12 := g1.trans (g2.mono g1.size)
  have hb2 := hbW.trans (g12.mono hbW.size)
  have i0' := i0.keep g12
  have o2 := (o1.mono hbW.size).keep g2
  have nN : w.heap.size < w1.heap.size := Nat.lt_of_lt_of_le ji0 g1.size
  obtain ⟨N, eN⟩ : ∃ N, w1.heap.size = N := ⟨_, rfl⟩
  have HW2 := Lib.hid hw2
  clear hw2 i0 o1 g1 g2 g12 hbW HW
  go_wp2_with fail
  rw [HW2.out]
  rw [eN] at i1 nN
  try rw [eN]
  clear eN HW2 q0 q1 q2
  go_loopw [18] (fun v wr => ∃ k : Nat, v = .int .i64 (k : Int) ∧ ∃ b' s' t' q', (k = 0 ∧ q' = 0 ∨ k = 1 ∧ q' = q) ∧ Bx3 wr N b' s' t' ∧ OwRat w.heap.size wr b' s' t' q' ∧ Bx3 wr w.heap.size (.bool false) (.slice none 0 0) (.slice none 0 0) ∧ Below w.heap.size w wr) (fun v _ => 1 - (intOf v).toNat)
  case atStart => exact ⟨0, rfl, b1, s1, t1, 0, .inl ⟨rfl, rfl⟩, i1, o2, i0', hb2⟩
  case round =>
    clear i1 o2 i0' hb2
    obtain ⟨k, rfl, b', s', t', q', hk, i1, o2, i0', hb2⟩ := hrel
    rcases hk with ⟨rfl, rfl⟩ | ⟨rfl, rfl⟩
    · have hx2 := hx.keep hb2
      have hy2 := hy.keep hb2
      have k0 := cellB hb2 hg c0
      have k1 := cellB hb2 hg c1
      have k2 := cellB hb2 hg c2
      obtain ⟨w5, hw5⟩ : ∃ w5, wr.alloc (.cells #[b, s, t] 26) = w5 := ⟨_, rfl⟩
      have bo : Below wr.heap.size wr w5 := by rw [← hw5]; exact bel1 _ _
      have i5 : Bx3 w5 wr.heap.size b s t := by rw [← hw5]; exact Bx3.new _ _ _ _
      have i1' := i1.keep bo
      have i0'' := i0'.keep bo
      have hx3 := hx2.keep bo
      have hy3 := hy2.keep bo
      have hb3 := hb2.trans (bo.mono hb2.size)
      have z0 := cellB hb3 hh d0
      have z1 := cellB hb3 hh d1
      have z2 := cellB hb3 hh d2
      have hnol := o2.nol
      have o3 := (o2.keep bo).is (sz_zero (K := K + K) zm.one)
      have hN5 : wr.heap.size ≠ N := fun e => by have := i1.lt; omega
      have hn5 : N ≠ wr.heap.size := fun e => hN5 e.symm
      obtain ⟨q0, q1, q2⟩ := hx2.st
      have HW5 := Lib.hid hw5
      clear hx2 hy2 o2 i1 i0' bo hw5
      go_upto_region 7 with fail
      rw [HW5.out]
      clear HW5 q0 q1 q2 k0 k1 k2
      obtain ⟨u0, u1, u2, u3, u4, u5⟩ := id i1'
      obtain ⟨v0, v1, v2, v3, v4, v5⟩ := id i5
      obtain ⟨M, eM⟩ : ∃ M, wr.heap.size = M := ⟨_, rfl⟩
      rw [eM] at v0 v1 v2 v3 v4 v5 hN5 hn5 i5
      try rw [eM]
      have hs := hb3.size
      have hwl := i0''.lt
      go_region_law (first
        | (go_simp; go_at_call 25; refine (RMul_v (hx3.keep (Below.refl _ _).drew) (hy3.keep (Below.refl _ _).drew) (by omega) EM.out).mono ?_; rintro e w6 ⟨b6, s6, t6, rfl, o6, g6⟩; have g6' : Below w5.heap.size w5 w6 := (Below.refl w5.heap.size w5).drew.trans g6; have i6 := i1'.keep g6'; obtain ⟨u0, u1, u2, u3, u4, u5⟩ := id i6)
        | (go_simp; go_at_call 23; refine (RAdd_v (o3.keep g6') (o6.is zm) (by omega) E.out).mono ?_; rintro e w7 ⟨b7, s7, t7, rfl, o7, g7⟩; have g7' : Below w5.heap.size w5 w7 := g6'.trans (g7.mono g6'.size); have i7 := i1'.keep g7'; obtain ⟨u0, u1, u2, u3, u4, u5⟩ := id i7; obtain ⟨x0, x1, x2⟩ := o7.st))
      all_goals
        have hb7 := hb3.trans (g7'.mono hb3.size)
        have i0f := i0''.keep g7'
        have HR := Lib.hid (show Bx3 (((w7.setCell ⟨N, 0, none⟩ b7).setCell ⟨N, 1, none⟩ s7).setCell ⟨N, 2, none⟩ t7) N b7 s7 t7 ∧ OwRat w.heap.size (((w7.setCell ⟨N, 0, none⟩ b7).setCell ⟨N, 1, none⟩ s7).setCell ⟨N, 2, none⟩ t7) b7 s7 t7 q ∧ Bx3 (((w7.setCell ⟨N, 0, none⟩ b7).setCell ⟨N, 1, none⟩ s7).setCell ⟨N, 2, none⟩ t7) w.heap.size (.bool false) (.slice none 0 0) (.slice none 0 0) ∧ Below w.heap.size w (((w7.setCell ⟨N, 0, none⟩ b7).setCell ⟨N, 1, none⟩ s7).setCell ⟨N, 2, none⟩ t7) from ⟨i7.put _ _ _, (o7.mono (Nat.le_trans hs g6'.size)).put3 i7 hnol _ _ _, i0f.far3 (by omega) _ _ _, below_put3 hb7 (by omega) _ _ _⟩)
        clear o6 o7 i6 i7 i0f i1' i0'' hx3 o3 hy3
        go_wp2_with fail
        go_roundw
        case rel => exact ⟨1, rfl, b7, s7, t7, q, .inr ⟨rfl, rfl⟩, HR.out⟩
        case measure => simp [intOf]
    · obtain ⟨y0, y1, y2, y3, y4, y5⟩ := id i1
      obtain ⟨z0, z1, z2, z3, z4, z5⟩ := id i0'
      obtain ⟨q0, q1, q2⟩ := o2.st
      have HRET := Lib.hid (ret_ry (w := w) i0' (Nat.le_refl _) o2 (Nat.le_refl _) hb2)
      clear o2 i1 i0' hx hy
      go_wp2_with fail
      exact bodyPost_ret (v := .tuple #[.agg #[b', s', t'], .bool true]) (by simp [results, Try.results20, go_sem, z0, z1, z2]) rfl HRET.out
end Go.Proofs.Ytaeidephegnkdaa
