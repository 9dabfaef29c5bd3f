/- Rational numbers looked at as memory alone: Ceil, Sum and Dot of lists of one element. -/
import Derived.Test.YtaeidephegnkdaaRq
import Derived.Test.YtaeidephegnkdaaMK
namespace Go.Proofs.Ytaeidephegnkdaa
open Go.RowKit Gm

/-- a slice that may be written -/
def WrV (lo : Nat) (w : World) (s : Value) : Prop := ∃ A n c, s = .slice A n c ∧ Wr lo w A n
theorem WrV.below {lo : Nat} {w w' : World} {s : Value} (h : WrV lo w s) (hb : Below w.heap.size w w') : WrV lo w' s := by
  obtain ⟨A, n, c, rfl, h⟩ := h
  exact ⟨A, n, c, rfl, h.below hb⟩
theorem WrV.mono {lo lo' : Nat} {w : World} {s : Value} (h : WrV lo w s) (hl : lo' ≤ lo) : WrV lo' w s := by
  obtain ⟨A, n, c, rfl, h⟩ := h
  exact ⟨A, n, c, rfl, h.mono hl⟩
theorem WrV.nil (lo : Nat) (w : World) : WrV lo w (.slice none 0 0) := ⟨none, 0, 0, rfl, Wr.nil _ _ _⟩
/-- a boolean value -/
def BoV (b : Value) : Prop := ∃ p, b = .bool p
/-- a rational number whose limbs may be written -/
def WrR (lo : Nat) (w : World) (b s t : Value) : Prop := BoV b ∧ WrV lo w s ∧ WrV lo w t
theorem WrR.below {lo : Nat} {w w' : World} {b s t : Value} (h : WrR lo w b s t) (hb : Below w.heap.size w w') : WrR lo w' b s t := ⟨h.1, h.2.1.below hb, h.2.2.below hb⟩
theorem WrR.mono {lo lo' : Nat} {w : World} {b s t : Value} (h : WrR lo w b s t) (hl : lo' ≤ lo) : WrR lo' w b s t := ⟨h.1, h.2.1.mono hl, h.2.2.mono hl⟩
theorem OwRat.wr {lo : Nat} {w : World} {b s t : Value} {r : Rat} (h : OwRat lo w b s t r) : WrR lo w b s t := by
  obtain ⟨A, c, B, d, rfl, rfl, rfl, h1, h2⟩ := h
  exact ⟨⟨_, rfl⟩, ⟨_, _, _, rfl, h1.wr⟩, ⟨_, _, _, rfl, h2.wr⟩⟩
def RetRW (w : World) (e : Ending) (w' : World) : Prop := ∃ b s t, e = .returned (.agg #[b, s, t]) ∧ WrR w.heap.size w' b s t ∧ Below w.heap.size w w'
def RetRW2 (w : World) (e : Ending) (w' : World) : Prop := ∃ b s t o, e = .returned (.tuple #[.agg #[b, s, t], .bool o]) ∧ WrR w.heap.size w' b s t ∧ Below w.heap.size w w'
theorem RetR.w {w w' : World} {r : Rat} {e : Ending} (h : RetR w r e w') : RetRW w e w' := by
  obtain ⟨b, s, t, rfl, h1, h2⟩ := h
  exact ⟨b, s, t, rfl, h1.wr, h2⟩
theorem RetRY.w {w w' : World} {r : Rat} {e : Ending} (h : RetRY w r e w') : RetRW2 w e w' := by
  obtain ⟨b, s, t, rfl, h1, h2⟩ := h
  exact ⟨b, s, t, true, rfl, h1.wr, h2⟩
theorem RetRatN.w {w w' : World} {e : Ending} (h : RetRatN w e w') : RetRW2 w e w' := by
  obtain ⟨rfl, h2⟩ := h
  exact ⟨_, _, _, false, rfl, ⟨⟨_, rfl⟩, WrV.nil _ _, WrV.nil _ _⟩, h2⟩
theorem RetZ.w {w w' : World} {n : Int} {e : Ending} (h : RetZ w n e w') : RetIW w e w' := by
  obtain ⟨b, s, rfl, ⟨A, c, rfl, rfl, h1⟩, h2⟩ := h
  exact ⟨_, _, _, _, rfl, h1.wr, h2⟩

set_option maxRecDepth 100000 in
set_option maxHeartbeats 2000000 in
theorem RCeil_c (p : Bool) (A B : Option Addr) (xs ys : List Nat) (c d : Nat) (w : World) (r : Rat) (K : Nat) (ha : Lim w A c xs) (hb : Lim w B d ys) (hs : xs.length ≤ K) (ht : ys.length ≤ K) (h1 : 1 ≤ K) (hK : K ≤ 1099511627776) (hr : rv p xs ys = r) :
    Calls Try.prog 31 #[.agg #[.bool p, .slice A xs.length c, .slice B ys.length d]] w (fun e w' => ∃ s, RetInt w s e w') := by
  obtain ⟨W, hW, hbW, hsz, i1, i2⟩ := rbox1I w p (.slice A xs.length c) (.slice B ys.length d)
  have j1 := i1.lt
  have j2 := i2.lt
  obtain ⟨x0, x1, x2, _, _, _⟩ := id i1
  have HW := Lib.hid hW
  have HR := Lib.hid hr
  clear hW hsz hr
  replace ha := ha.below hbW
  replace hb := hb.below hbW
  go_enter Try.func31, Try.ntmps31
  go_wp2_with fail
  rw [HW.out]
  refine (floor_c p A B xs ys c d _ r K ha hb hs ht h1 (by omega) HR.out).mono ?_
  rintro e w1 ⟨n, D, A1, c1, A2, c2, A3, ys3, c3, rfl, r1, r2, l3, z3, zn, ev, hD, hm, b1⟩
  obtain ⟨Q, eQ⟩ : ∃ Q : Int, n / (D : Int) = Q := ⟨_, rfl⟩
  obtain ⟨S, eS⟩ : ∃ S : Int, n % (D : Int) = S := ⟨_, rfl⟩
  have zQ : (limbs Q.natAbs).length ≤ K := by rw [← eQ]; exact Nat.le_trans (limbs_mono (Int.natAbs_ediv_le_natAbs _ _)) zn
  have zS : (limbs S.natAbs).length ≤ K := by
    rw [← eS]
    refine Nat.le_trans (limbs_mono (n := D) ?_) (by rw [← ev]; exact Nat.le_trans (limbs_length_le l3.lb) z3)
    have h5 := Int.emod_nonneg n (show (D : Int) ≠ 0 by omega)
    have h6 := Int.emod_lt_of_pos n (show (0 : Int) < (D : Int) by omega)
    omega
  rw [eQ] at r1 ⊢
  rw [eS] at r2 ⊢
  obtain ⟨sg, esg⟩ : ∃ x, sgn S = x := ⟨_, rfl⟩
  have ESG := Lib.hid esg
  clear eQ eS hm ev esg
  obtain ⟨W2, hW2, hbW2, k3, k4, k5⟩ := boxes3k w1 (decide (Q < 0)) (decide (S < 0)) false (.slice A1 (limbs Q.natAbs).length c1) (.slice A2 (limbs S.natAbs).length c2) (.slice A3 ys3.length c3)
  have jw1 : w.heap.size + 1 < w1.heap.size := Nat.lt_of_lt_of_le j2 b1.size
  have b2 := b1.trans (hbW2.mono b1.size)
  have t2 := i2.keep b2
  have o1 := (r1.below hbW2).mono (lo' := w.heap.size) hbW.size
  have lq : IsInt W2 (.bool (decide (S < 0))) (.slice A2 (limbs S.natAbs).length c2) S K := ⟨_, _, _, _, rfl, rfl, r2.lim.below hbW2, zS, iv_canon S⟩
  have hb2 := hbW.trans (b2.mono hbW.size)
  obtain ⟨v0, v1, _, _⟩ := id k4
  have m4 := k4.lt
  clear r1 r2 b1 hbW2 b2 l3 x0 x1 x2 i1 i2 ha hb hbW k4 k5
  go_wp2_with fail
  try rw [hW2]
  clear hW2
  refine (ISign_v lq (by omega) ESG.out).mono ?_
  rintro e w4 ⟨rfl, hBel⟩
  have t2' := t2.keep hBel
  have k3' := k3.keep hBel
  have o1' := o1.below hBel
  have hb4 := hb2.trans (hBel.mono hb2.size)
  clear v0 v1 lq
  obtain ⟨u0, u1, _, _⟩ := id k3'
  obtain ⟨z0, z1, z2, z3⟩ := id t2'
  have n2 := t2'.lt
  have n3 := k3'.lt
  obtain ⟨o, eo⟩ : ∃ o : Int, 1 = o := ⟨_, rfl⟩
  have zo : (limbs o.natAbs).length ≤ K := by rw [← eo]; exact Nat.le_trans (Nat.le_of_eq limbs1_len) h1
  have EO := Lib.hid eo
  have n23 : w1.heap.size ≠ w.heap.size + 1 := by omega
  clear eo hBel ESG
  have hBel : Below w4.heap.size w4 w4.drew := (Below.refl _ _).drew
  by_cases hsg : sg = 0
  · subst hsg
    have HRET := Lib.hid (ret_int (w := w) t2' (by omega) o1' hb4)
    go_wp2_with fail
    exact bodyPost_ret (v := .agg #[.bool (decide (Q < 0)), .slice A1 (limbs Q.natAbs).length c1]) (by simp [results, Try.results31, go_sem, z0, z1]) rfl ⟨_, HRET.out⟩
  · obtain ⟨s, es⟩ : ∃ s : Int, Q + o = s := ⟨_, rfl⟩
    have ESS := Lib.hid es
    clear es
    go_wp2_with fail
    go_region_held3 (fun w' => w'.cell? ⟨w1.heap.size, 0, none⟩ = some (.bool (decide (Q < 0))) ∧ w'.cell? ⟨w1.heap.size, 1, none⟩ = some (.slice A1 (limbs Q.natAbs).length c1))
      (first | (with_reducible exact ⟨cellB hBel n3 u0, cellB hBel n3 u1⟩) | (with_reducible exact ⟨(cellF2 n23 _ _).trans (cellB hBel n3 u0), (cellF2 n23 _ _).trans (cellB hBel n3 u1)⟩) | go_keep)
      (first
        | (go_at_call 67; refine (FromInt_o 1 o _ (by omega) (by omega) EO.out).mono ?_; rintro e v1 ⟨B1, f1, rfl, q1, s1⟩; replace hBel := hBel.trans (s1.mono hBel.size))
        | (go_at_call 62; refine (IAdd_n _ _ A1 B1 (limbs Q.natAbs) (limbs o.natAbs) c1 f1 _ Q o s K K ?_ ?_ zQ zo (iv_canon Q) (iv_canon o) ESS.out (by omega) (by omega)).mono ?_; exact o1'.lim.below hBel; exact q1.lim; rintro e v2 ⟨B2, f2, rfl, q2, s2⟩; have p2 := q2.mono (lo' := w.heap.size) (Nat.le_trans hb4.size hBel.size); have hBel' : Below w4.heap.size w4 v2 := hBel.trans (s2.mono hBel.size); clear hBel; have hBel := hBel'; clear hBel'; have t6 := t2'.keep hBel; obtain ⟨a0, a1, a2, a3⟩ := id t6))
    rename_i hHeld
    clear hHeld
    have HRET := Lib.hid (ret_int (w := w) t6 (by omega) p2 (hb4.trans (hBel.mono hb4.size)))
    clear q1 q2 s1 s2 p2 t6
    go_wp2_with fail
    exact bodyPost_ret (v := .agg #[.bool (decide (s < 0)), .slice B2 (limbs s.natAbs).length f2]) (by simp [results, Try.results31, go_sem, a0, a1]) rfl ⟨_, HRET.out⟩
theorem WrR.st {lo : Nat} {w : World} {b s t : Value} (h : WrR lo w b s t) : (∀ (a : Addr) (m : Mode) (w : World), (Go.store a b m).run Try.prog w = stored Try.prog w a b m) ∧ (∀ (a : Addr) (m : Mode) (w : World), (Go.store a s m).run Try.prog w = stored Try.prog w a s m) ∧ (∀ (a : Addr) (m : Mode) (w : World), (Go.store a t m).run Try.prog w = stored Try.prog w a t m) := by
  obtain ⟨⟨p, rfl⟩, ⟨A, n, c, rfl, _⟩, ⟨B, m, d, rfl, _⟩⟩ := h
  exact ⟨OneC.st rfl, OneC.st rfl, OneC.st rfl⟩
theorem WrR.cl {lo : Nat} {w : World} {b s t : Value} (h : WrR lo w b s t) : (∀ cs, b = .agg cs → False) ∧ (∀ cs, s = .agg cs → False) ∧ (∀ cs, t = .agg cs → False) := by
  obtain ⟨⟨p, rfl⟩, ⟨A, n, c, rfl, _⟩, ⟨B, m, d, rfl, _⟩⟩ := h
  exact ⟨(by intro _ e; cases e), (by intro _ e; cases e), (by intro _ e; cases e)⟩
/-- what a drawn region of calls has made -/
structure Res (W : World) (lo : Nat) (w : World) (L : List (Value × Value × Value)) : Prop where
  bel : Below W.heap.size W w
  wr : ∀ e ∈ L, WrR lo w e.1 e.2.1 e.2.2
theorem Res.alloc {W w : World} {lo : Nat} {L : List (Value × Value × Value)} (h : Res W lo w L) (o : Obj) : Res W lo (w.alloc o) L := ⟨Below.al1 h.bel _, fun e he => (h.wr e he).below (bel1 _ _)⟩
theorem Res.drew {W w : World} {lo : Nat} {L : List (Value × Value × Value)} (h : Res W lo w L) : Res W lo w.drew L := ⟨h.bel.drew, fun e he => (h.wr e he).below (Below.refl _ _).drew⟩
theorem Res.call {W w w' : World} {lo : Nat} {L : List (Value × Value × Value)} {b s t : Value} (h : Res W lo w L) (hl : lo ≤ W.heap.size) (hr : WrR w.heap.size w' b s t) (hb : Below w.heap.size w w') : Res W lo w' (L ++ [(b, s, t)]) :=
  ⟨h.bel.trans (hb.mono h.bel.size), fun e he => by
    rcases List.mem_append.1 he with he | he
    · exact (h.wr e he).below hb
    · obtain rfl := List.mem_singleton.1 he
      exact hr.mono (Nat.le_trans hl h.bel.size)⟩
/-- row g holds rational numbers from place k on, whose limbs may be written -/
def OutsR (lo g len : Nat) (w : World) (k : Nat) : Prop :=
  ∀ i, k ≤ i → i < len → ∃ p A n c B m d, w.cell? ⟨g, 3 * i, none⟩ = some (.bool p) ∧ w.cell? ⟨g, 3 * i + 1, none⟩ = some (.slice A n c) ∧ w.cell? ⟨g, 3 * i + 2, none⟩ = some (.slice B m d) ∧ Wr lo w A n ∧ Wr lo w B m ∧ (0 < n → ∃ ad, A = some ad ∧ ad.block < g) ∧ (0 < m → ∃ ad, B = some ad ∧ ad.block < g)
theorem OutsR.next {lo g len k : Nat} {w : World} (h : OutsR lo g len w k) : OutsR lo g len w (k + 1) := fun i h1 h2 => h i (by omega) h2
theorem OutsR.wiped {lo g len k : Nat} {w w' : World} (h : OutsR lo g len w k) (hw : Wiped lo g w w') : OutsR lo g len w' k := by
  intro i h1 h2
  obtain ⟨p, A, n, c, B, m, d, hc0, hc1, hc2, hr, hr2, ha, ha2⟩ := h i h1 h2
  have hh := hw.block g (.inr (Nat.le_refl _))
  refine ⟨p, A, n, c, B, m, d, ?_, ?_, ?_, hw.wr hr, hw.wr hr2, ha, ha2⟩
  · rw [← hc0]; unfold World.cell?; rw [hh]
  · rw [← hc1]; unfold World.cell?; rw [hh]
  · rw [← hc2]; unfold World.cell?; rw [hh]
theorem OutsR.alloc {lo g len k : Nat} {w : World} (h : OutsR lo g len w k) (hg : g < w.heap.size) (o : Obj) : OutsR lo g len (w.alloc o) k := by
  intro i h1 h2
  obtain ⟨p, A, n, c, B, m, d, hc0, hc1, hc2, hr, hr2, ha, ha2⟩ := h i h1 h2
  exact ⟨p, A, n, c, B, m, d, cellB (bel1 w o) hg hc0, cellB (bel1 w o) hg hc1, cellB (bel1 w o) hg hc2, hr.below (bel1 w o), hr2.below (bel1 w o), ha, ha2⟩
/-- a literal of rational numbers -/
theorem outsR_lit (w : World) (lo : Nat) (L : List (Value × Value × Value)) (ty : TypeId) (h : ∀ e ∈ L, WrR lo w e.1 e.2.1 e.2.2) :
    OutsR lo w.heap.size L.length (w.alloc (.cells (L.flatMap fun e => [e.1, e.2.1, e.2.2]).toArray ty)) 0 := by
  intro i _ hi
  have hm := List.getElem_mem hi
  have hfl : ∀ (L : List (Value × Value × Value)) (i : Nat) (hi : i < L.length), (L.flatMap fun e => [e.1, e.2.1, e.2.2])[3 * i]? = some L[i].1 ∧ (L.flatMap fun e => [e.1, e.2.1, e.2.2])[3 * i + 1]? = some L[i].2.1 ∧ (L.flatMap fun e => [e.1, e.2.1, e.2.2])[3 * i + 2]? = some L[i].2.2 := by
    intro L
    induction L with
    | nil => intro i hi; simp at hi
    | cons e L ih =>
      intro i hi
      cases i with
      | zero => simp
      | succ i =>
        have h1 := ih i (by simpa using hi)
        have e1 : 3 * (i + 1) = 3 * i + 1 + 1 + 1 := by omega
        rw [e1]
        simpa using h1
  obtain ⟨h1, h2, h3⟩ := hfl L i hi
  obtain ⟨⟨p, ep⟩, ⟨A, n, c, eA, hA⟩, ⟨B, m, d, eB, hB⟩⟩ := h _ hm
  refine ⟨p, A, n, c, B, m, d, ?_, ?_, ?_, hA.below (bel1 _ _), hB.below (bel1 _ _), fun h0 => ?_, fun h0 => ?_⟩
  · rw [cell_of_row _ _ (3 * i) _ _ _ (heap_alloc_new w _), ← ep]
    simpa using h1
  · rw [cell_of_row _ _ (3 * i + 1) _ _ _ (heap_alloc_new w _), ← eA]
    simpa using h2
  · rw [cell_of_row _ _ (3 * i + 2) _ _ _ (heap_alloc_new w _), ← eB]
    simpa using h3
  · obtain ⟨b, off, e, _, hb, _⟩ := hA.2 h0
    exact ⟨_, e, hb⟩
  · obtain ⟨b, off, e, _, hb, _⟩ := hB.2 h0
    exact ⟨_, e, hb⟩

theorem outs11 {W u : World} {lo : Nat} {b0 s0 t0 b1 s1 t1 b2 s2 t2 b3 s3 t3 b4 s4 t4 b5 s5 t5 b6 s6 t6 b7 s7 t7 bq sq tq bi si ti bd sd td : Value} {ty : TypeId} (hA : Res W lo u [(b0, s0, t0), (b1, s1, t1), (b2, s2, t2), (b3, s3, t3), (b4, s4, t4), (b5, s5, t5), (b6, s6, t6), (b7, s7, t7)]) (rq : WrR lo W bq sq tq) (ri : WrR lo W bi si ti) (rd : WrR lo W bd sd td) :
    OutsR lo u.heap.size 11 (u.alloc (.cells #[b0, s0, t0, b1, s1, t1, b2, s2, t2, b3, s3, t3, b4, s4, t4, b5, s5, t5, b6, s6, t6, b7, s7, t7, bq, sq, tq, bi, si, ti, bd, sd, td] ty)) 0 := by
  have h := outsR_lit u lo ([(b0, s0, t0), (b1, s1, t1), (b2, s2, t2), (b3, s3, t3), (b4, s4, t4), (b5, s5, t5), (b6, s6, t6), (b7, s7, t7)] ++ [(bq, sq, tq), (bi, si, ti), (bd, sd, td)]) ty (by
    intro e he
    rcases List.mem_append.1 he with he | he
    · exact hA.wr e he
    · simp only [List.mem_cons, List.not_mem_nil, or_false] at he
      rcases he with rfl | rfl | rfl
      · exact rq.below hA.bel
      · exact ri.below hA.bel
      · exact rd.below hA.bel)
  exact h
theorem Wiped.bx {lo hi : Nat} {w w' : World} {N : Nat} {b s t : Value} (h : Wiped lo hi w w') (hN : hi ≤ N) (i : Bx3 w N b s t) : Bx3 w' N b s t := by
  have hh := h.block N (.inr hN)
  obtain ⟨x0, x1, x2, x3, x4, x5⟩ := i
  refine ⟨?_, ?_, ?_, ?_, ?_, ?_⟩
  · rw [← x0]; unfold World.cell?; rw [hh]
  · rw [← x1]; unfold World.cell?; rw [hh]
  · rw [← x2]; unfold World.cell?; rw [hh]
  · rw [← x3]; exact h.frz _
  · rw [← x4]; exact h.frz _
  · rw [← x5]; exact h.frz _

section
variable {w : World} {b s t b' s' t' : Value} {r r' : Rat} {K : Nat}
theorem RNorm_w (h : IsRat w b s t r K) (hK : K ≤ 1048576) : Calls Try.prog 21 #[.agg #[b, s, t]] w (RetRW w) := (RNorm_v h (by omega) rfl).mono fun _ _ h => h.w
theorem RNeg_w (h : IsRat w b s t r K) (hK : K ≤ 1048576) : Calls Try.prog 22 #[.agg #[b, s, t]] w (RetRW w) := (RNeg_v h (by omega) rfl).mono fun _ _ h => h.w
theorem RAdd_w (h : IsRat w b s t r K) (h' : IsRat w b' s' t' r' K) (hK : K ≤ 1048576) : Calls Try.prog 23 #[.agg #[b, s, t], .agg #[b', s', t']] w (RetRW w) := (RAdd_v h h' (by omega) rfl).mono fun _ _ h => h.w
theorem RSub_w (h : IsRat w b s t r K) (h' : IsRat w b' s' t' r' K) (hK : K ≤ 1048576) : Calls Try.prog 24 #[.agg #[b, s, t], .agg #[b', s', t']] w (RetRW w) := (RSub_v h h' (by omega) rfl).mono fun _ _ h => h.w
theorem RMul_w (h : IsRat w b s t r K) (h' : IsRat w b' s' t' r' K) (hK : K ≤ 1048576) : Calls Try.prog 25 #[.agg #[b, s, t], .agg #[b', s', t']] w (RetRW w) := (RMul_v h h' (by omega) rfl).mono fun _ _ h => h.w
theorem RMin_w (h : IsRat w b s t r K) (h' : IsRat w b' s' t' r' K) (hK : K ≤ 1048576) : Calls Try.prog 26 #[.agg #[b, s, t], .agg #[b', s', t']] w (RetRW w) := (RMin_v h h' (by omega) rfl).mono fun _ _ h => h.w
theorem RMax_w (h : IsRat w b s t r K) (h' : IsRat w b' s' t' r' K) (hK : K ≤ 1048576) : Calls Try.prog 27 #[.agg #[b, s, t], .agg #[b', s', t']] w (RetRW w) := (RMax_v h h' (by omega) rfl).mono fun _ _ h => h.w
theorem RInv_w (h : IsRat w b s t r K) (hK : K ≤ 1048576) : Calls Try.prog 19 #[.agg #[b, s, t]] w (RetRW2 w) := by
  by_cases h0 : r = 0
  · exact (RInvN_v h h0).mono fun _ _ h => h.w
  · exact (RInvY_v h (by omega) h0 rfl).mono fun _ _ h => h.w
theorem RDiv_w (h : IsRat w b s t r K) (h' : IsRat w b' s' t' r' K) (hK : K ≤ 1048576) : Calls Try.prog 18 #[.agg #[b, s, t], .agg #[b', s', t']] w (RetRW2 w) := by
  by_cases h0 : r' = 0
  · exact (RDivN_v h h' (by omega) h0).mono fun _ _ h => h.w
  · exact (RDivY_v h h' (by omega) h0 rfl).mono fun _ _ h => h.w
theorem RFloor_w (h : IsRat w b s t r K) (hK : K ≤ 1048576) : Calls Try.prog 30 #[.agg #[b, s, t]] w (RetIW w) := (RFloor_v h (by omega) rfl).mono fun _ _ h => h.w
theorem RRound_w (h : IsRat w b s t r K) (hK : K ≤ 1048576) : Calls Try.prog 32 #[.agg #[b, s, t]] w (RetIW w) := (RRound_v h (by omega) rfl).mono fun _ _ h => h.w
theorem RCeil_w (h : IsRat w b s t r K) (hK : K ≤ 1048576) : Calls Try.prog 31 #[.agg #[b, s, t]] w (RetIW w) := by
  obtain ⟨p, A, xs, c, B, ys, d, rfl, rfl, rfl, ha, hd, hs, ht, h1, hr⟩ := h
  exact (RCeil_c p A B xs ys c d w r K ha hd hs ht h1 (by omega) hr).mono fun _ _ ⟨_, h⟩ => h.iw
end
end Go.Proofs.Ytaeidephegnkdaa
