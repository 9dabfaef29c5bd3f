/- The walk of the statement NaturalKeeps: it returns true. -/
import Derived.Test.YtkpchamgghhihaaKeep
import Derived.Test.YtkpchamgghhihaaOpen
namespace Go.Proofs.Ytkpchamgghhihaa
open Go.RowKit Gm

/-- row g holds slices from place k on, all of which may be written -/
def Outs (lo g len : Nat) (w : World) (k : Nat) : Prop :=
  ∀ i, k ≤ i → i < len → ∃ A n c, w.cell? ⟨g, i, none⟩ = some (.slice A n c) ∧ Wr lo w A n ∧ (0 < n → ∃ ad, A = some ad ∧ ad.block < g)
theorem Outs.wiped {lo g len k : Nat} {w w' : World} (h : Outs lo g len w k) (hw : Wiped lo g w w') : Outs lo g len w' (k + 1) := by
  intro i h1 h2
  obtain ⟨A, n, c, hc, hr, ha⟩ := h i (by omega) h2
  refine ⟨A, n, c, ?_, hw.wr hr, ha⟩
  rw [← hc]
  unfold World.cell?
  rw [hw.block g (.inr (Nat.le_refl _))]
/-- a literal of slices -/
theorem outs_lit (w : World) (lo : Nat) (L : List (Option Addr × Nat × Nat)) (ty : TypeId) (h : ∀ e ∈ L, Wr lo w e.1 e.2.1) :
    Outs lo w.heap.size L.length (w.alloc (.cells (L.map fun e => Value.slice e.1 e.2.1 e.2.2).toArray ty)) 0 := by
  intro i _ hi
  have hm := List.getElem_mem hi
  refine ⟨L[i].1, L[i].2.1, L[i].2.2, ?_, (h _ hm).below (bel1 _ _), fun h0 => ?_⟩
  · rw [cell_of_row _ _ i _ _ _ (heap_alloc_new w _)]
    simp [List.getElem?_eq_getElem hi]
  · obtain ⟨b, off, e, _, hb, _⟩ := (h _ hm).2 h0
    exact ⟨_, e, hb⟩

set_option maxRecDepth 100000 in
set_option maxHeartbeats 4000000 in
theorem nkeeps_walk (A0 : Option Addr) (xs0 : List Nat) (c0 : Nat) (A1 : Option Addr) (xs1 : List Nat) (c1 : Nat) (w : World) (h0 : Lim w A0 c0 xs0) (h1 : Lim w A1 c1 xs1) (k0 : xs0.length ≤ 35184372087808) (k1 : xs1.length ≤ 35184372087808) :
    Calls Try.prog 3 #[.slice A0 xs0.length c0, .slice A1 xs1.length c1] w (RetB w true) := by
  go_enter Try.func3, Try.ntmps3
  go_wp2_with fail
  refine (Spare_c A0 xs0 c0 w h0 k0).mono ?_
  rintro e w1 ⟨gx, rfl, lx, sx, b1⟩
  go_wp2_with fail
  refine (Spare_c A1 xs1 c1 w1 (h1.below b1) k1).mono ?_
  rintro e w2 ⟨gy, rfl, ly, sy, b2⟩
  have hBel : Below w.heap.size w w2 := b1.trans (b2.mono b1.size)
  replace h0 := h0.below hBel
  replace h1 := h1.below hBel
  replace sx := sx.below b2 sx.lt
  have x := sx.lim k0
  have y := sy.lim k1
  clear b1 b2 lx ly
  go_wp2_with fail
  refine (DivMod_any _ _ xs0 xs1 _ _ w2 x y k0).mono ?_
  rintro e w3 ⟨Aq, nq, cq, Ar, nr, cr, bo, rfl, rq, rr, b3⟩
  go_wp2_with fail
  refine (Sub_any _ _ xs0 xs1 _ _ w3 (x.below b3) (y.below b3) k0).mono ?_
  rintro e w4 ⟨Ad, nd, cd, bo1, rfl, rd, b4⟩
  have b24 := b3.trans (b4.mono b3.size)
  go_wp2_with fail
  refine (ShiftLeft_any _ xs0 _ w4 (x.below b24) k0).mono ?_
  rintro e w5 ⟨Al, nl, cl, bo2, rfl, rl, b5⟩
  have b25 := b24.trans (b5.mono b24.size)
  go_wp2_with fail
  refine (ShiftRight_any _ xs0 _ w5 (x.below b25) k0).mono ?_
  rintro e w6 ⟨As, ns, cs, bo3, rfl, rs, b6⟩
  have b26 := b25.trans (b6.mono b25.size)
  go_wp2_with fail
  refine (Trim_c _ xs0 _ w6 (x.below b26) (by omega)).mono ?_
  intro e w7 hr
  obtain ⟨At, nt, ct, rfl, rt, b7⟩ := hr.w1
  clear hr
  have b27 := b26.trans (b7.mono b26.size)
  go_wp2_with fail
  refine (Add_c _ _ xs0 xs1 _ _ w7 (x.below b27) (y.below b27) (by omega) (by omega)).mono ?_
  intro e w8 hr
  obtain ⟨Aa, na, ca, rfl, ra, b8⟩ := hr.w1
  clear hr
  have b28 := b27.trans (b8.mono b27.size)
  go_wp2_with fail
  refine (Mul_c _ _ xs0 xs1 _ _ w8 (x.below b28) (y.below b28) (by omega)).mono ?_
  intro e w9 hr
  obtain ⟨Am, nm, cm, rfl, rm, b9⟩ := hr.w1
  clear hr
  have b29 := b28.trans (b9.mono b28.size)
  go_wp2_with fail
  refine (GCD_c _ _ xs0 xs1 _ _ w9 (x.below b29) (y.below b29) (by omega) (by omega)).mono ?_
  intro e w10 hr
  obtain ⟨Ag, ng, cg, rfl, rg, b10⟩ := hr.w1
  clear hr
  have b210 := b29.trans (b10.mono b29.size)
  go_wp2_with fail
  refine (GCD_c _ none xs0 [] _ 0 w10 (x.below b210) (Lim.nil _ _) (by omega) (by simp)).mono ?_
  intro e w11 hr
  obtain ⟨Ah, nh, ch, rfl, rh, b11⟩ := hr.w1
  clear hr
  have b211 := b210.trans (b11.mono b210.size)
  go_wp2_with fail
  refine (Add_c _ none xs0 [] _ 0 w11 (x.below b211) (Lim.nil _ _) (by omega) (by simp)).mono ?_
  intro e w12 hr
  obtain ⟨Ab, nb', cb, rfl, rb, b12⟩ := hr.w1
  clear hr
  have b212 := b211.trans (b12.mono b211.size)
  have o := outs_lit w12 w2.heap.size [(At, nt, ct), (Aa, na, ca), (Am, nm, cm), (Ag, ng, cg), (Ah, nh, ch), (Ab, nb', cb), (Aq, nq, cq), (Ar, nr, cr), (Ad, nd, cd), (Al, nl, cl), (As, ns, cs)] 22 (by
    have e11 := b12
    have e10 := b11.trans (e11.mono b11.size)
    have e9 := b10.trans (e10.mono b10.size)
    have e8 := b9.trans (e9.mono b9.size)
    have e7 := b8.trans (e8.mono b8.size)
    have e6 := b7.trans (e7.mono b7.size)
    have e5 := b6.trans (e6.mono b6.size)
    have e4 := b5.trans (e5.mono b5.size)
    have e3 := b4.trans (e4.mono b4.size)
    intro e he
    simp only [List.mem_cons, List.not_mem_nil, or_false] at he
    rcases he with rfl | rfl | rfl | rfl | rfl | rfl | rfl | rfl | rfl | rfl | rfl
    · exact (rt.below e7).mono b26.size
    · exact (ra.below e8).mono b27.size
    · exact (rm.below e9).mono b28.size
    · exact (rg.below e10).mono b29.size
    · exact (rh.below e11).mono b210.size
    · exact rb.mono b211.size
    · exact rq.below e3
    · exact rr.below e3
    · exact (rd.below e4).mono b3.size
    · exact (rl.below e5).mono b24.size
    · exact (rs.below e6).mono b25.size)
  have bL := b212.alloc b212.size (.cells ([(At, nt, ct), (Aa, na, ca), (Am, nm, cm), (Ag, ng, cg), (Ah, nh, ch), (Ab, nb', cb), (Aq, nq, cq), (Ar, nr, cr), (Ad, nd, cd), (Al, nl, cl), (As, ns, cs)].map fun e : Option Addr × Nat × Nat => Value.slice e.1 e.2.1 e.2.2).toArray 22)
  have hg0 := b212.size
  simp only [List.map_cons, List.map_nil, List.length_cons, List.length_nil] at o bL
  clear rt ra rm rg rh rb rq rr rd rl rs b12 b11 b10 b9 b8 b7 b6 b5 b4 b3 b24 b25 b26 b27 b28 b29 b210 b211 b212 x y
  obtain ⟨W, hW⟩ : ∃ W, w12.alloc (.cells #[.slice At nt ct, .slice Aa na ca, .slice Am nm cm, .slice Ag ng cg, .slice Ah nh ch, .slice Ab nb' cb, .slice Aq nq cq, .slice Ar nr cr, .slice Ad nd cd, .slice Al nl cl, .slice As ns cs] 22) = W := ⟨_, rfl⟩
  rw [hW] at o bL
  go_wp2_with fail
  clear hW
  go_loopw [67] (fun t wr => ∃ k : Nat, k ≤ 11 ∧ t = .int .i64 (k : Int) ∧ Outs w2.heap.size w12.heap.size 11 wr k ∧ Below w2.heap.size w2 wr) (fun t _ => 11 - (intOf t).toNat)
  case atStart => exact ⟨0, by omega, rfl, o, bL⟩
  case round =>
    obtain ⟨k, hk, rfl, ho, hb⟩ := hrel
    by_cases hlt : k < 11
    · obtain ⟨A, n, c, hc, hr, ha⟩ := ho k (Nat.le_refl _) hlt
      have i0 : (0 : Int) ≤ (k : Int) := by omega
      have i1 : (k : Int) < 11 := by omega
      clear o bL
      go_wp2_with fail
      refine (Wipe_c w2.heap.size A n c wr hr w12.heap.size ha).mono ?_
      rintro e w13 ⟨rfl, hw⟩
      go_wp2_with fail
      go_roundw
      case rel => exact ⟨k + 1, by omega, by go_num, ho.wiped hw, hb.trans hw.below⟩
      case measure => simp [intOf]; omega
    · obtain rfl : k = 11 := by omega
      clear o bL ho
      go_wp2_with fail
      refine (awake1_c wr).mono ?_
      rintro e w13 ⟨rfl, b13⟩
      have b2 : Below w2.heap.size w2 w13 := hb.trans (b13.mono hb.size)
      go_wp2_with fail
      refine (Kept_c A0 xs0 c0 gx w13 (sx.below b2 sx.lt) (h0.below b2) k0).mono ?_
      rintro e w14 ⟨rfl, b14⟩
      have b3 : Below w2.heap.size w2 w14 := b2.trans (b14.mono b2.size)
      go_wp2_with fail
      refine (Kept_c A1 xs1 c1 gy w14 (sy.below b3 sy.lt) (h1.below b3) k1).mono ?_
      rintro e w15 ⟨rfl, b15⟩
      have b4 : Below w2.heap.size w2 w15 := b3.trans (b15.mono b3.size)
      go_wp2_with fail
      go_ret
      exact ⟨rfl, hBel.trans (b4.mono hBel.size)⟩
end Go.Proofs.Ytkpchamgghhihaa
