/- Contracts of the reference of layer 2: division. -/
import Derived.Test.YtkpchamgghhihaaRefI
import Derived.Deep.CutBlock
import Derived.Deep.DeepCutAuto
namespace Go.Proofs.Ytkpchamgghhihaa
open Go.RowKit Gm

/-- an integer variable at block N -/
structure IntAt (w : World) (N : Nat) (b : Bool) (s : Value) : Prop where
  c0 : w.cell? ⟨N, 0, none⟩ = some (.bool b)
  c1 : w.cell? ⟨N, 1, none⟩ = some s
  f0 : w.frozen? ⟨N, 0, none⟩ = false
  f1 : w.frozen? ⟨N, 1, none⟩ = false
theorem IntAt.below {B N : Nat} {w w' : World} {b : Bool} {s : Value} (h : IntAt w N b s) (hb : Below B w w') (hN : N < B) : IntAt w' N b s :=
  ⟨(hb.cell (p := ⟨N, 0, none⟩) hN).trans h.c0, (hb.cell (p := ⟨N, 1, none⟩) hN).trans h.c1, (hb.frozen (p := ⟨N, 0, none⟩) hN).trans h.f0, (hb.frozen (p := ⟨N, 1, none⟩) hN).trans h.f1⟩
theorem IntAt.lt {w : World} {N : Nat} {b : Bool} {s : Value} (h : IntAt w N b s) : N < w.heap.size := World.block_lt_of_cell? w _ h.c0
theorem IntAt.put {N : Nat} {w : World} {b : Bool} {s : Value} (h : IntAt w N b s) (b' : Bool) (s' : Value) : IntAt ((w.setCell ⟨N, 0, none⟩ (.bool b')).setCell ⟨N, 1, none⟩ s') N b' s' := by
  obtain ⟨h0, h1, h2, h3⟩ := h
  refine ⟨?_, ?_, ?_, ?_⟩ <;> go_simp
theorem IntAt.far {N M : Nat} {w : World} {b : Bool} {s : Value} (h : IntAt w N b s) (hM : N ≠ M) (u v : Value) : IntAt ((w.setCell ⟨M, 0, none⟩ u).setCell ⟨M, 1, none⟩ v) N b s := by
  have h1 := Below.heap_setCell w ⟨M, 0, none⟩ u N hM
  have h2 := Below.heap_setCell (w.setCell ⟨M, 0, none⟩ u) ⟨M, 1, none⟩ v N hM
  have h3 := h2.trans h1
  exact ⟨by rw [← h.c0]; simp only [World.cell?, h3], by rw [← h.c1]; simp only [World.cell?, h3], by rw [← h.f0]; simp only [World.frozen?, h3], by rw [← h.f1]; simp only [World.frozen?, h3]⟩

theorem cellF2 {w : World} {N o M : Nat} (h : N ≠ M) (u v : Value) : ((w.setCell ⟨M, 0, none⟩ u).setCell ⟨M, 1, none⟩ v).cell? ⟨N, o, none⟩ = w.cell? ⟨N, o, none⟩ := by
  have h1 := Below.heap_setCell w ⟨M, 0, none⟩ u N h
  have h2 := Below.heap_setCell (w.setCell ⟨M, 0, none⟩ u) ⟨M, 1, none⟩ v N h
  simp only [World.cell?, h2.trans h1]
theorem Make_k (b : Bool) (A : Option Addr) (m c : Nat) (w : World) (h : Lim w A c (limbs m)) (hs : (limbs m).length ≤ 70368744177664) :
    Calls Try.prog 79 #[.bool b, .slice A (limbs m).length c] w fun e w' => ∃ A' c', e = .returned (.agg #[.bool (decide (mkI b m < 0)), .slice A' (limbs m).length c']) ∧ Own w.heap.size w' A' c' (limbs m) ∧ Below w.heap.size w w' := by
  refine (Make_c b A (limbs m) c w h hs).mono ?_
  rintro e w' ⟨A', c', rfl, r, b'⟩
  rw [iv_eq, val_limbs, mkI_natAbs] at r ⊢
  exact ⟨A', c', rfl, r, b'⟩

theorem ret_divI {w w' : World} {b : Bool} {m n : Nat} {Q S : Int} {A B : Option Addr} {c d : Nat} (hq : Q = mkI b m) (hr : S = mkI false n) (ho : Own w.heap.size w' A c (limbs m)) (hp : Own w.heap.size w' B d (limbs n)) (hb : Below w.heap.size w w') :
    RetDivI w Q S (.returned (.tuple #[.agg #[.bool (decide (mkI b m < 0)), .slice A (limbs m).length c], .agg #[.bool false, .slice B (limbs n).length d], .bool true])) w' := by
  subst hq hr
  have e : decide (mkI false n < 0) = false := by simp [mkI]
  refine ⟨A, c, B, d, ?_, ?_, ?_, hb⟩
  · rw [mkI_natAbs, mkI_natAbs, e]
  · rw [mkI_natAbs]; exact ho
  · rw [mkI_natAbs]; exact hp
theorem RetDivI.drew {w w' : World} {q r : Int} {e : Ending} (h : RetDivI w q r e w') : RetDivI w q r e w'.drew := by
  obtain ⟨A, c, B, d, h1, h2, h3, h4⟩ := h
  exact ⟨A, c, B, d, h1, h2.drewN 1, h3.drewN 1, h4.drew⟩

set_option maxHeartbeats 1000000 in
theorem rIDivMod_zero (p q : Bool) (A B : Option Addr) (xs ys : List Nat) (c d : Nat) (w : World) (hb : Lim w B d ys) (ht : ys.length ≤ 70368744177664) (h0 : val ys = 0) :
    Calls Try.prog 116 #[.agg #[.bool p, .slice A xs.length c], .agg #[.bool q, .slice B ys.length d]] w fun e w' => e = .returned (.tuple #[.agg #[.bool false, .slice none 0 0], .agg #[.bool false, .slice none 0 0], .bool false]) ∧ Below w.heap.size w w' := by
  go_enter Try.func116, Try.ntmps116
  go_wp2_with fail
  obtain ⟨W, hW, hbW, hsz, k, kr, ks⟩ := four_boxes w p q (.slice A xs.length c) (.slice B ys.length d)
  rw [hW]
  clear hW
  refine (rDivMod_zero A B xs ys c d W (hb.below hbW) ht h0).mono ?_
  rintro e w1 ⟨rfl, b1⟩
  obtain ⟨g1, g2, g3, g4⟩ := keepR b1 (show w.heap.size + 1 + 1 < W.heap.size by omega) kr
  obtain ⟨g5, g6, g7, g8⟩ := keepR b1 (show w.heap.size + 1 + 1 + 1 < W.heap.size by omega) ks
  have hbel : Below w.heap.size w w1 := hbW.trans (b1.mono (by omega))
  have hfin := below_put2 (below_put2 hbel (show w.heap.size ≤ w.heap.size + 1 + 1 by omega) (.bool false) (.slice none 0 0)) (show w.heap.size ≤ w.heap.size + 1 + 1 + 1 by omega) (.bool false) (.slice none 0 0)
  clear k kr ks hbW b1 hbel
  go_wp2
  exact bodyPost_ret (v := .tuple #[.agg #[.bool false, .slice none 0 0], .agg #[.bool false, .slice none 0 0], .bool false]) (by simp [results, Try.results116, go_sem, g1, g2, g5, g6]) rfl ⟨rfl, hfin⟩

set_option maxHeartbeats 2000000 in
theorem rIDivMod_plain (p q : Bool) (A B : Option Addr) (xs ys : List Nat) (c d : Nat) (w : World) (ha : Lim w A c xs) (hb : Lim w B d ys) (hs : xs.length ≤ 70368744177660) (ht : ys.length ≤ 70368744177660) (h0 : val ys ≠ 0) (hp : p = false ∨ val xs % val ys = 0) :
    Calls Try.prog 116 #[.agg #[.bool p, .slice A xs.length c], .agg #[.bool q, .slice B ys.length d]] w (RetDivI w (iv p xs / iv q ys) (iv p xs % iv q ys)) := by
  have HE := Lib.hid (ediv_mk p q h0 hp)
  have hr0 : mkI p (val xs % val ys) = mkI false (val xs % val ys) := by
    rcases hp with h | h
    · rw [h]
    · rw [h]; cases p <;> rfl
  have lq : (limbs (val xs / val ys)).length ≤ 70368744177664 := Nat.le_trans (limbs_mono (Nat.div_le_self _ _)) (by have := limbs_length_le ha.lb; omega)
  have lr : (limbs (val xs % val ys)).length ≤ 70368744177664 := Nat.le_trans (limbs_mono (Nat.mod_le _ _)) (by have := limbs_length_le ha.lb; omega)
  have HR0 := Lib.hid hr0
  clear hr0 hp
  go_enter Try.func116, Try.ntmps116
  go_wp2_with fail
  obtain ⟨W, hW, hbW, hsz, k, kr, ks⟩ := four_boxes w p q (.slice A xs.length c) (.slice B ys.length d)
  rw [hW]
  clear hW
  refine (rDivMod_c A B xs ys c d W (ha.below hbW) (hb.below hbW) hs ht h0).mono ?_
  rintro e w1 ⟨A1, c1, A2, c2, rfl, r1, r2, b1⟩
  obtain ⟨m1, m2, m3, m4⟩ := keep2 b1 (show w.heap.size + 2 ≤ W.heap.size by omega) k
  obtain ⟨x1, x2, x3, x4⟩ := keepR b1 (show w.heap.size + 1 + 1 < W.heap.size by omega) kr
  obtain ⟨y1, y2, y3, y4⟩ := keepR b1 (show w.heap.size + 1 + 1 + 1 < W.heap.size by omega) ks
  have t4 : IntAt w1 (w.heap.size + 1 + 1) false (.slice none 0 0) := ⟨x1, x2, x3, x4⟩
  have t5 : IntAt w1 (w.heap.size + 1 + 1 + 1) false (.slice none 0 0) := ⟨y1, y2, y3, y4⟩
  have hz1 : w.heap.size + 4 ≤ w1.heap.size := by have := b1.size; omega
  have hbel : Below w.heap.size w w1 := hbW.trans (b1.mono (by omega))
  have q1 := r1.lim
  have q2 := r2.lim
  obtain ⟨M, eM⟩ : ∃ M, val xs / val ys = M := ⟨_, rfl⟩
  obtain ⟨R, eR⟩ : ∃ R, val xs % val ys = R := ⟨_, rfl⟩
  rw [eM] at HE q1 lq ⊢
  rw [eR] at HE HR0 q2 lr ⊢
  have j0 : w.heap.size < w1.heap.size := by omega
  have j1 : w.heap.size + 1 < w1.heap.size := by omega
  have tk0 : True := trivial
  have tk1 : True := trivial
  have hBel : Below w1.heap.size w1 w1.drew := (Below.refl _ _).drew
  clear k kr ks x1 x2 x3 x4 y1 y2 y3 y4 r1 r2 b1 hbW hsz eM eR ha hb
  go_upto_region 4 with fail
  go_cut [6] (fun s6 wx => s6 = .bool true ∧ ∃ A3 c3 A4 c4, IntAt wx (w.heap.size + 1 + 1) (decide (mkI (p != q) M < 0)) (.slice A3 (limbs M).length c3) ∧ IntAt wx (w.heap.size + 1 + 1 + 1) (decide (mkI p R < 0)) (.slice A4 (limbs R).length c4) ∧ Own (w.heap.size + 4) wx A3 c3 (limbs M) ∧ Own (w.heap.size + 4) wx A4 c4 (limbs R) ∧ Below w.heap.size w wx)
  case first =>
    go_region_held3 (fun w' => w'.cell? ⟨w.heap.size, 0, none⟩ = some (.bool p) ∧ w'.cell? ⟨w.heap.size + 1, 0, none⟩ = some (.bool q))
      (first | exact ⟨cellB hBel j0 m1, cellB hBel j1 m3⟩ | exact ⟨(cellF2 (by omega) _ _).trans (cellB hBel j0 m1), (cellF2 (by omega) _ _).trans (cellB hBel j1 m3)⟩ | exact ⟨((cellF2 (by omega) _ _).trans (cellF2 (by omega) _ _)).trans (cellB hBel j0 m1), ((cellF2 (by omega) _ _).trans (cellF2 (by omega) _ _)).trans (cellB hBel j1 m3)⟩ | go_keep)
      (first
        | (go_at_call 79; have _t := tk0; clear tk0; refine (Make_k (p != q) A1 M c1 _ ?_ lq).mono ?_; exact q1.below hBel; rintro e w2 ⟨A3, c3, rfl, r3, b3⟩; replace hBel := hBel.trans (b3.mono hBel.size))
        | (go_at_call 79; have _t := tk1; clear tk1; refine (Make_k p A2 R c2 _ ?_ lr).mono ?_; exact q2.below hBel; rintro e w3 ⟨A4, c4, rfl, r4, b4⟩; replace hBel := hBel.trans (b4.mono hBel.size); obtain ⟨x1, x2, x3, x4⟩ := t4.below hBel (by omega); obtain ⟨y1, y2, y3, y4⟩ := t5.below hBel (by omega)))
    rename_i hHeld
    clear hHeld
    have hend : Below w.heap.size w w3 := hbel.trans (hBel.mono hbel.size)
    have z2 : w1.heap.size ≤ w2.heap.size := b3.size
    have o3 : Own w.heap.size w3 A3 c3 (limbs M) ∧ Own w1.heap.size w3 A3 c3 (limbs M) := ⟨(r3.below b4).mono (show w.heap.size ≤ w1.heap.size by omega), r3.below b4⟩
    have o4 : Own w1.heap.size w3 A4 c4 (limbs R) := r4.mono z2
    have u4 := (t4.below hBel (by omega)).put (decide (mkI (p != q) M < 0)) (.slice A3 (limbs M).length c3)
    have u4' := u4.far (M := w.heap.size + 1 + 1 + 1) (by omega) (.bool (decide (mkI p R < 0))) (.slice A4 (limbs R).length c4)
    have u5 := ((t5.below hBel (by omega)).far (M := w.heap.size + 1 + 1) (by omega) (.bool (decide (mkI (p != q) M < 0))) (.slice A3 (limbs M).length c3)).put (decide (mkI p R < 0)) (.slice A4 (limbs R).length c4)
    have v3 := (o3.2.put4 (N := w.heap.size + 1 + 1) (M := w.heap.size + 1 + 1 + 1) (by omega) (by omega) (.bool (decide (mkI (p != q) M < 0))) (.slice A3 (limbs M).length c3) (.bool (decide (mkI p R < 0))) (.slice A4 (limbs R).length c4)).mono (lo' := w.heap.size + 4) (by omega)
    have v4 := (o4.put4 (N := w.heap.size + 1 + 1) (M := w.heap.size + 1 + 1 + 1) (by omega) (by omega) (.bool (decide (mkI (p != q) M < 0))) (.slice A3 (limbs M).length c3) (.bool (decide (mkI p R < 0))) (.slice A4 (limbs R).length c4)).mono (lo' := w.heap.size + 4) (by omega)
    have vb := below_put2 (below_put2 hend (show w.heap.size ≤ w.heap.size + 1 + 1 by omega) (.bool (decide (mkI (p != q) M < 0))) (.slice A3 (limbs M).length c3)) (show w.heap.size ≤ w.heap.size + 1 + 1 + 1 by omega) (.bool (decide (mkI p R < 0))) (.slice A4 (limbs R).length c4)
    clear r3 r4 b3 b4 x1 x2 x3 x4 y1 y2 y3 y4
    go_wp2_with fail
    go_meet
    exact ⟨rfl, A3, c3, A4, c4, u4', u5, v3, v4, vb⟩
  case rest =>
    obtain ⟨rfl, A3, c3, A4, c4, u4, u5, o3, o4, hend⟩ := hcut
    have hneg : decide (mkI p R < 0) = false := by rw [HR0.out]; simp [mkI]
    rw [hneg] at u5
    obtain ⟨x1, x2, x3, x4⟩ := u4
    obtain ⟨y1, y2, y3, y4⟩ := u5
    have HNEG := Lib.hid hneg
    clear hneg t4 t5 m1 m2 m3 m4 hBel q1 q2
    have hret := ret_divI (w := w) HE.out.1 HE.out.2 ((o3.put4 (N := w.heap.size + 1 + 1) (M := w.heap.size + 1 + 1 + 1) (by omega) (by omega) (.bool (decide (mkI (p != q) M < 0))) (.slice A3 (limbs M).length c3) (.bool false) (.slice A4 (limbs R).length c4)).mono (by omega)) ((o4.put4 (N := w.heap.size + 1 + 1) (M := w.heap.size + 1 + 1 + 1) (by omega) (by omega) (.bool (decide (mkI (p != q) M < 0))) (.slice A3 (limbs M).length c3) (.bool false) (.slice A4 (limbs R).length c4)).mono (by omega)) (below_put2 (below_put2 hend (show w.heap.size ≤ w.heap.size + 1 + 1 by omega) (.bool (decide (mkI (p != q) M < 0))) (.slice A3 (limbs M).length c3)) (show w.heap.size ≤ w.heap.size + 1 + 1 + 1 by omega) (.bool false) (.slice A4 (limbs R).length c4))
    have HRET := Lib.hid hret.drew
    clear hret o3 o4
    go_wp2_with fail
    go_region
    go_wp2_with fail
    exact bodyPost_ret (v := .tuple #[.agg #[.bool (decide (mkI (p != q) M < 0)), .slice A3 (limbs M).length c3], .agg #[.bool false, .slice A4 (limbs R).length c4], .bool true]) (by simp [results, Try.results116, go_sem, x1, x2, y1, y2]) rfl HRET.out
end Go.Proofs.Ytkpchamgghhihaa
