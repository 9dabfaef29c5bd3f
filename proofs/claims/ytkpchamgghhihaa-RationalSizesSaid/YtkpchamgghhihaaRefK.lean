/- Contracts of the reference of layer 2: division with a negative dividend. -/
import Derived.Test.YtkpchamgghhihaaRefJ
namespace Go.Proofs.Ytkpchamgghhihaa
open Go.RowKit Gm

theorem rIAdd_g (m n s : Int) (b1 b2 : Bool) (us vs : List Nat) (A B : Option Addr) (c d : Nat) (w : World) (h1 : decide (m < 0) = b1) (h2 : decide (n < 0) = b2) (e1 : limbs m.natAbs = us) (e2 : limbs n.natAbs = vs) (ha : Lim w A c us) (hb : Lim w B d vs) (hs : us.length ≤ 70368744177660) (ht : vs.length ≤ 70368744177660) (h : m + n = s) :
    Calls Try.prog 83 #[.agg #[.bool b1, .slice A us.length c], .agg #[.bool b2, .slice B vs.length d]] w (RetInt w s) := by
  subst h1 h2 e1 e2
  exact rIAdd_n _ _ A B _ _ c d w m n s 70368744177660 70368744177660 ha hb hs ht (iv_canon m) (iv_canon n) h (by omega) (by omega)
theorem rISub_g (m n s : Int) (b1 b2 : Bool) (us vs : List Nat) (A B : Option Addr) (c d : Nat) (w : World) (h1 : decide (m < 0) = b1) (h2 : decide (n < 0) = b2) (e1 : limbs m.natAbs = us) (e2 : limbs n.natAbs = vs) (ha : Lim w A c us) (hb : Lim w B d vs) (hs : us.length ≤ 70368744177660) (ht : vs.length ≤ 70368744177660) (h : m - n = s) :
    Calls Try.prog 109 #[.agg #[.bool b1, .slice A us.length c], .agg #[.bool b2, .slice B vs.length d]] w (RetInt w s) := by
  subst h1 h2 e1 e2
  exact rISub_n _ _ A B _ _ c d w m n s 70368744177660 70368744177660 ha hb hs ht (iv_canon m) (iv_canon n) h (by omega) (by omega)
/-- an integer that is made of a sign and a magnitude -/
theorem RetInt.mk {w w' : World} {b : Bool} {m : Nat} {e : Ending} (h : RetInt w (mkI b m) e w') : ∃ A c, e = .returned (.agg #[.bool (decide (mkI b m < 0)), .slice A (limbs m).length c]) ∧ Own w.heap.size w' A c (limbs m) ∧ Below w.heap.size w w' := by
  obtain ⟨A, c, h1, h2, h3⟩ := h
  rw [mkI_natAbs] at h1 h2
  exact ⟨A, c, h1, h2, h3⟩
theorem rAdd_adj (A B : Option Addr) (c d R V : Nat) (w : World) (ha : Lim w A c (limbs R)) (hb : Lim w B d (limbs V)) (hR : (limbs R).length ≤ 70368744177660) (hV : (limbs V).length ≤ 70368744177660) (hle : R ≤ V) :
    Calls Try.prog 83 #[.agg #[.bool true, .slice A (limbs R).length c], .agg #[.bool (decide (((V : Nat) : Int) < 0)), .slice B (limbs V).length d]] w fun e w' => ∃ A' c', e = .returned (.agg #[.bool false, .slice A' (limbs (V - R)).length c']) ∧ Own w.heap.size w' A' c' (limbs (V - R)) ∧ Below w.heap.size w w' := by
  have e1 : iv true (limbs R) = -((R : Nat) : Int) := by simp [iv, val_limbs]
  have e2 : iv (decide (((V : Nat) : Int) < 0)) (limbs V) = ((V : Nat) : Int) := by
    have := iv_canon ((V : Nat) : Int)
    rwa [Int.natAbs_natCast] at this
  refine (rIAdd_n true (decide (((V : Nat) : Int) < 0)) A B (limbs R) (limbs V) c d w (-((R : Nat) : Int)) ((V : Nat) : Int) (((V - R : Nat) : Nat) : Int) 70368744177660 70368744177660 ha hb hR hV e1 e2 (by omega) (by omega) (by omega)).mono ?_
  rintro e w' ⟨A', c', rfl, r, b⟩
  rw [Int.natAbs_natCast] at r ⊢
  rw [show decide (((V - R : Nat) : Int) < 0) = false by rw [decide_eq_false_iff_not]; omega]
  exact ⟨A', c', rfl, r, b⟩

set_option maxRecDepth 100000 in
set_option maxHeartbeats 2000000 in
theorem rIDivMod_adj (q : Bool) (A B : Option Addr) (xs ys : List Nat) (c d : Nat) (w : World) (ha : Lim w A c xs) (hb : Lim w B d ys) (hs : xs.length ≤ 70368744177660) (ht : ys.length ≤ 70368744177660) (h0 : val ys ≠ 0) (hr : val xs % val ys ≠ 0) :
    Calls Try.prog 116 #[.agg #[.bool true, .slice A xs.length c], .agg #[.bool q, .slice B ys.length d]] w (RetDivI w (iv true xs / iv q ys) (iv true xs % iv q ys)) := by
  have hE := ediv_mk' q h0 hr
  rw [show (true != q) = !q by cases q <;> rfl] at hE
  have HE := Lib.hid hE
  clear hE
  have hrlt := Nat.mod_lt (val xs) (show 0 < val ys by omega)
  have lM0 := Lib.hid (show (limbs (val xs / val ys)).length ≤ 70368744177660 from Nat.le_trans (limbs_mono (Nat.div_le_self _ _)) (by have := limbs_length_le ha.lb; omega))
  have lq : (limbs (val xs / val ys)).length ≤ 70368744177664 := Nat.le_trans (limbs_mono (Nat.div_le_self _ _)) (by have := limbs_length_le ha.lb; omega)
  have lr : (limbs (val xs % val ys)).length ≤ 70368744177664 := Nat.le_trans (limbs_mono (Nat.mod_le _ _)) (by have := limbs_length_le ha.lb; omega)
  go_enter Try.func116, Try.ntmps116
  go_wp2_with fail
  obtain ⟨W, hW, hbW, hsz, k, kr, ks⟩ := four_boxes w true q (.slice A xs.length c) (.slice B ys.length d)
  rw [hW]
  clear hW
  refine (rDivMod_c A B xs ys c d W (ha.below hbW) (hb.below hbW) hs ht h0).mono ?_
  rintro e w1 ⟨A1, c1, A2, c2, rfl, r1, r2, b1⟩
  obtain ⟨m1, m2, m3, m4⟩ := keep2 b1 (show w.heap.size + 2 ≤ W.heap.size by omega) k
  obtain ⟨x1, x2, x3, x4⟩ := keepR b1 (show w.heap.size + 1 + 1 < W.heap.size by omega) kr
  obtain ⟨y1, y2, y3, y4⟩ := keepR b1 (show w.heap.size + 1 + 1 + 1 < W.heap.size by omega) ks
  have t4 : IntAt w1 (w.heap.size + 1 + 1) false (.slice none 0 0) := ⟨x1, x2, x3, x4⟩
  have t5 : IntAt w1 (w.heap.size + 1 + 1 + 1) false (.slice none 0 0) := ⟨y1, y2, y3, y4⟩
  have hz1 : w.heap.size + 4 ≤ w1.heap.size := by have := b1.size; omega
  have hbel : Below w.heap.size w w1 := hbW.trans (b1.mono (by omega))
  have q1 := r1.lim
  have q2 := r2.lim
  obtain ⟨M, eM⟩ : ∃ M, val xs / val ys = M := ⟨_, rfl⟩
  obtain ⟨R, eR⟩ : ∃ R, val xs % val ys = R := ⟨_, rfl⟩
  rw [eM] at HE q1 lq lM0 ⊢
  rw [eR] at HE q2 lr hr hrlt ⊢
  have j0 : w.heap.size < w1.heap.size := by omega
  have j1 : w.heap.size + 1 < w1.heap.size := by omega
  have tk0 : True := trivial
  have tk1 : True := trivial
  have hBel : Below w1.heap.size w1 w1.drew := (Below.refl _ _).drew
  clear k kr ks x1 x2 x3 x4 y1 y2 y3 y4 r1 r2 b1 hbW hsz eM eR ha
  have hK3 : w1.cell? ⟨w.heap.size + 1, 1, none⟩ = some (.slice B ys.length d) := m4
  go_upto_region 4 with fail
  go_cut [6] (fun s6 wx => s6 = .bool true ∧ ∃ A3 c3 A4 c4, IntAt wx (w.heap.size + 1 + 1) (decide (mkI (!q) M < 0)) (.slice A3 (limbs M).length c3) ∧ IntAt wx (w.heap.size + 1 + 1 + 1) (decide (mkI true R < 0)) (.slice A4 (limbs R).length c4) ∧ Own (w.heap.size + 4) wx A3 c3 (limbs M) ∧ Own (w.heap.size + 4) wx A4 c4 (limbs R) ∧ Below w.heap.size w wx ∧ Below (w.heap.size + 1 + 1) w1 wx)
  case first =>
    go_region_held3 (fun w' => w'.cell? ⟨w.heap.size, 0, none⟩ = some (.bool true) ∧ w'.cell? ⟨w.heap.size + 1, 0, none⟩ = some (.bool q))
      (first | exact ⟨cellB hBel j0 m1, cellB hBel j1 m3⟩ | exact ⟨(cellF2 (by omega) _ _).trans (cellB hBel j0 m1), (cellF2 (by omega) _ _).trans (cellB hBel j1 m3)⟩ | exact ⟨((cellF2 (by omega) _ _).trans (cellF2 (by omega) _ _)).trans (cellB hBel j0 m1), ((cellF2 (by omega) _ _).trans (cellF2 (by omega) _ _)).trans (cellB hBel j1 m3)⟩ | go_keep)
      (first
        | (go_at_call 79; have _t := tk0; clear tk0; refine (Make_k (!q) A1 M c1 _ ?_ lq).mono ?_; exact q1.below hBel; rintro e w2 ⟨A3, c3, rfl, r3, b3⟩; replace hBel := hBel.trans (b3.mono hBel.size))
        | (go_at_call 79; have _t := tk1; clear tk1; refine (Make_k true A2 R c2 _ ?_ lr).mono ?_; exact q2.below hBel; rintro e w3 ⟨A4, c4, rfl, r4, b4⟩; replace hBel := hBel.trans (b4.mono hBel.size); obtain ⟨x1, x2, x3, x4⟩ := t4.below hBel (by omega); obtain ⟨y1, y2, y3, y4⟩ := t5.below hBel (by omega)))
    rename_i hHeld
    clear hHeld
    have hend : Below w.heap.size w w3 := hbel.trans (hBel.mono hbel.size)
    have z2 : w1.heap.size ≤ w2.heap.size := b3.size
    have o3 : Own w.heap.size w3 A3 c3 (limbs M) ∧ Own w1.heap.size w3 A3 c3 (limbs M) := ⟨(r3.below b4).mono (show w.heap.size ≤ w1.heap.size by omega), r3.below b4⟩
    have o4 : Own w1.heap.size w3 A4 c4 (limbs R) := r4.mono z2
    have u4 := (t4.below hBel (by omega)).put (decide (mkI (!q) M < 0)) (.slice A3 (limbs M).length c3)
    have u4' := u4.far (M := w.heap.size + 1 + 1 + 1) (by omega) (.bool (decide (mkI true R < 0))) (.slice A4 (limbs R).length c4)
    have u5 := ((t5.below hBel (by omega)).far (M := w.heap.size + 1 + 1) (by omega) (.bool (decide (mkI (!q) M < 0))) (.slice A3 (limbs M).length c3)).put (decide (mkI true R < 0)) (.slice A4 (limbs R).length c4)
    have v3 := (o3.2.put4 (N := w.heap.size + 1 + 1) (M := w.heap.size + 1 + 1 + 1) (by omega) (by omega) (.bool (decide (mkI (!q) M < 0))) (.slice A3 (limbs M).length c3) (.bool (decide (mkI true R < 0))) (.slice A4 (limbs R).length c4)).mono (lo' := w.heap.size + 4) (by omega)
    have v4 := (o4.put4 (N := w.heap.size + 1 + 1) (M := w.heap.size + 1 + 1 + 1) (by omega) (by omega) (.bool (decide (mkI (!q) M < 0))) (.slice A3 (limbs M).length c3) (.bool (decide (mkI true R < 0))) (.slice A4 (limbs R).length c4)).mono (lo' := w.heap.size + 4) (by omega)
    have vb := below_put2 (below_put2 hend (show w.heap.size ≤ w.heap.size + 1 + 1 by omega) (.bool (decide (mkI (!q) M < 0))) (.slice A3 (limbs M).length c3)) (show w.heap.size ≤ w.heap.size + 1 + 1 + 1 by omega) (.bool (decide (mkI true R < 0))) (.slice A4 (limbs R).length c4)
    have vb2 := below_put2 (below_put2 (hBel.mono (show w.heap.size + 1 + 1 ≤ w1.heap.size by omega)) (Nat.le_refl _) (.bool (decide (mkI (!q) M < 0))) (.slice A3 (limbs M).length c3)) (show w.heap.size + 1 + 1 ≤ w.heap.size + 1 + 1 + 1 by omega) (.bool (decide (mkI true R < 0))) (.slice A4 (limbs R).length c4)
    clear r3 r4 b3 b4 x1 x2 x3 x4 y1 y2 y3 y4
    go_wp2_with fail
    go_meet
    exact ⟨rfl, A3, c3, A4, c4, u4', u5, v3, v4, vb, vb2⟩
  case rest =>
    obtain ⟨rfl, A3, c3, A4, c4, u4, u5, o3, o4, hend, hb12⟩ := hcut
    have hbs := hb.below hend
    have hneg : decide (mkI true R < 0) = true := by rw [decide_eq_true_iff]; simp only [mkI, if_true]; omega
    rw [hneg] at u5
    have n1 : wc.cell? ⟨w.heap.size + 1, 0, none⟩ = some (.bool q) := (hb12.cell (p := ⟨w.heap.size + 1, 0, none⟩) (show w.heap.size + 1 < w.heap.size + 1 + 1 by omega)).trans m3
    have n2 : wc.cell? ⟨w.heap.size + 1, 1, none⟩ = some (.slice B ys.length d) := (hb12.cell (p := ⟨w.heap.size + 1, 1, none⟩) (show w.heap.size + 1 < w.heap.size + 1 + 1 by omega)).trans m4
    obtain ⟨x1, x2, x3, x4⟩ := id u4
    obtain ⟨y1, y2, y3, y4⟩ := id u5
    have hz4 : w.heap.size + 4 ≤ wc.heap.size := by have := World.block_lt_of_cell? wc _ y1; simp at this; omega
    clear t4 t5 m1 m2 m3 m4 hBel q1 q2 hneg tk0 tk1
    have o4l := o4.lim
    have lV : (limbs (val ys)).length ≤ 70368744177660 := Nat.le_trans (limbs_length_le hb.lb) ht
    have lR : (limbs R).length ≤ 70368744177660 := Nat.le_trans (limbs_mono (Nat.le_of_lt hrlt)) lV
    have iy : iv q ys = mkI q (val ys) := rfl
    go_upto_region 6 with fail
    go_cut [6] (fun s6 wx => s6 = .bool true ∧ ∃ A5 c5, IntAt wx (w.heap.size + 1 + 1) (decide (mkI (!q) M < 0)) (.slice A3 (limbs M).length c3) ∧ IntAt wx (w.heap.size + 1 + 1 + 1) false (.slice A5 (limbs (val ys - R)).length c5) ∧ Own (w.heap.size + 4) wx A3 c3 (limbs M) ∧ Own (w.heap.size + 4) wx A5 c5 (limbs (val ys - R)) ∧ Below w.heap.size w wx ∧ wx.cell? ⟨w.heap.size + 1, 0, none⟩ = some (.bool q))
    case first =>
      go_region_with (first
        | (go_at_call 85; refine (rAbs_n q B ys d _ (mkI q (val ys)) ((val ys : Nat) : Int) 70368744177660 ?_ ht iy ?_ ?_).mono ?_; exact hbs.drewN 1; (rw [mkI_natAbs]); omega; rintro e w6 ⟨A6, c6, rfl, r6, b6⟩; have b06 : Below wc.heap.size wc w6 := ((Below.refl wc.heap.size wc).drew).trans b6; have z6 : wc.heap.size ≤ w6.heap.size := b06.size; obtain ⟨y5, y6, y7, y8⟩ := u5.below b06 (by omega))
        | (go_at_call 83; refine (rAdd_adj A4 A6 c4 c6 R (val ys) _ ?_ ?_ ?_ ?_ ?_).mono ?_; exact o4l.below b06; exact r6.lim; exact lR; exact lV; exact Nat.le_of_lt hrlt; rintro e w7 ⟨A7, c7, rfl, r7, b7⟩; have b67 : Below wc.heap.size wc w7 := b06.trans (b7.mono z6); obtain ⟨y9, y10, y11, y12⟩ := u5.below b67 (by omega)))
      all_goals
        have vv4 := (u4.below b67 (by omega)).far (M := w.heap.size + 1 + 1 + 1) (by omega) (.bool false) (.slice A7 (limbs (val ys - R)).length c7)
        have vv5 := (u5.below b67 (by omega)).put false (.slice A7 (limbs (val ys - R)).length c7)
        have vo3 := (o3.below b67).put2 (N := w.heap.size + 1 + 1 + 1) (by omega) (.bool false) (.slice A7 (limbs (val ys - R)).length c7)
        have vo7 := ((r7.mono (lo' := w.heap.size + 4) (by omega)).put2 (N := w.heap.size + 1 + 1 + 1) (by omega) (.bool false) (.slice A7 (limbs (val ys - R)).length c7))
        have vb := below_put2 (hend.trans (b67.mono hend.size)) (show w.heap.size ≤ w.heap.size + 1 + 1 + 1 by omega) (.bool false) (.slice A7 (limbs (val ys - R)).length c7)
        have vn := (cellF2 (w := w7) (o := 0) (show w.heap.size + 1 ≠ w.heap.size + 1 + 1 + 1 by omega) (.bool false) (.slice A7 (limbs (val ys - R)).length c7)).trans (cellB b67 (by omega) n1)
        go_wp2_with fail
        go_meet
        exact ⟨rfl, A7, c7, vv4, vv5, vo3, vo7, vb, vn⟩
    case rest =>
      clear u4 u5 x1 x2 x3 x4 y1 y2 y3 y4 o3 o4 n1 n2 hbs o4l hend hb12 hz4
      obtain ⟨rfl, A5, c5, u4, u5, o3, o5, hend, n1⟩ := hcut
      have hz4 : w.heap.size + 4 ≤ wc.heap.size := by have := u5.lt; omega
      have lM : (limbs M).length ≤ 70368744177660 := lM0.out
      cases q
      · rw [show (!false) = true from rfl] at *
        obtain ⟨x1, x2, x3, x4⟩ := id u4
        obtain ⟨y1, y2, y3, y4⟩ := id u5
        have l1 : limbs 1 = [1] := limbs_lit' [1] (by decide) (by decide)
        have L1 := Lib.hid l1
        clear l1
        go_upto_region 9 with fail
        go_cut [6] (fun s6 wx => s6 = .bool true ∧ ∃ A8 c8, IntAt wx (w.heap.size + 1 + 1) (decide (mkI true (M + 1) < 0)) (.slice A8 (limbs (M + 1)).length c8) ∧ IntAt wx (w.heap.size + 1 + 1 + 1) false (.slice A5 (limbs (val ys - R)).length c5) ∧ Own (w.heap.size + 4) wx A8 c8 (limbs (M + 1)) ∧ Own (w.heap.size + 4) wx A5 c5 (limbs (val ys - R)) ∧ Below w.heap.size w wx)
        case first =>
          go_region_with (first
            | (go_at_call 77; refine (rFromInt_c 1 _ ?_ ?_).mono ?_; omega; omega; rintro e w6 ⟨A6, c6, rfl, r6, b6⟩; have b06 : Below wc.heap.size wc w6 := ((Below.refl wc.heap.size wc).drew).trans b6; have z6 : wc.heap.size ≤ w6.heap.size := b06.size; obtain ⟨x5, x6, x7, x8⟩ := u4.below b06 (by omega))
            | (go_at_call 109; refine (rISub_g (mkI true M) 1 (mkI true (M + 1)) _ _ _ _ A3 A6 c3 c6 _ rfl rfl ?_ ?_ ?_ ?_ ?_ ?_ ?_).mono ?_; (rw [mkI_natAbs]); rfl; exact o3.lim.below b06; exact r6.lim; exact lM; (show (limbs 1).length ≤ 70368744177660; rw [L1.out]; decide); (simp [mkI]; try omega); intro e w7 h7; obtain ⟨A7, c7, rfl, r7, b7⟩ := h7.mk; have b67 : Below wc.heap.size wc w7 := b06.trans (b7.mono z6); obtain ⟨x9, x10, x11, x12⟩ := u4.below b67 (by omega)))
          all_goals
            have vv4 := (u4.below b67 (by omega)).put (decide (mkI true (M + 1) < 0)) (.slice A7 (limbs (M + 1)).length c7)
            have vv5 := (u5.below b67 (by omega)).far (M := w.heap.size + 1 + 1) (by omega) (.bool (decide (mkI true (M + 1) < 0))) (.slice A7 (limbs (M + 1)).length c7)
            have vo5 := (o5.below b67).put2 (N := w.heap.size + 1 + 1) (by omega) (.bool (decide (mkI true (M + 1) < 0))) (.slice A7 (limbs (M + 1)).length c7)
            have vo7 := ((r7.mono (lo' := w.heap.size + 4) (by omega)).put2 (N := w.heap.size + 1 + 1) (by omega) (.bool (decide (mkI true (M + 1) < 0))) (.slice A7 (limbs (M + 1)).length c7))
            have vb := below_put2 (hend.trans (b67.mono hend.size)) (show w.heap.size ≤ w.heap.size + 1 + 1 by omega) (.bool (decide (mkI true (M + 1) < 0))) (.slice A7 (limbs (M + 1)).length c7)
            go_wp2_with fail
            go_meet
            exact ⟨rfl, A7, c7, vv4, vv5, vo7, vo5, vb⟩
        case rest =>
          obtain ⟨rfl, A8, c8, u6, u7, o8, o5, hend⟩ := hcut
          obtain ⟨x1, x2, x3, x4⟩ := u6
          obtain ⟨y1, y2, y3, y4⟩ := u7
          have hret := ret_divI (w := w) HE.out.1 HE.out.2 ((o8.put4 (N := w.heap.size + 1 + 1) (M := w.heap.size + 1 + 1 + 1) (by omega) (by omega) (.bool (decide (mkI true (M + 1) < 0))) (.slice A8 (limbs (M + 1)).length c8) (.bool false) (.slice A5 (limbs (val ys - R)).length c5)).mono (by omega)) ((o5.put4 (N := w.heap.size + 1 + 1) (M := w.heap.size + 1 + 1 + 1) (by omega) (by omega) (.bool (decide (mkI true (M + 1) < 0))) (.slice A8 (limbs (M + 1)).length c8) (.bool false) (.slice A5 (limbs (val ys - R)).length c5)).mono (by omega)) (below_put2 (below_put2 hend (show w.heap.size ≤ w.heap.size + 1 + 1 by omega) (.bool (decide (mkI true (M + 1) < 0))) (.slice A8 (limbs (M + 1)).length c8)) (show w.heap.size ≤ w.heap.size + 1 + 1 + 1 by omega) (.bool false) (.slice A5 (limbs (val ys - R)).length c5))
          have HRET := Lib.hid hret.drew
          clear hret o8 o5 u4 u5
          go_wp2_with fail
          go_region
          go_wp2_with fail
          exact bodyPost_ret (v := .tuple #[.agg #[.bool (decide (mkI true (M + 1) < 0)), .slice A8 (limbs (M + 1)).length c8], .agg #[.bool false, .slice A5 (limbs (val ys - R)).length c5], .bool true]) (by simp [results, Try.results116, go_sem, x1, x2, y1, y2]) rfl HRET.out
      · rw [show (!true) = false from rfl] at *
        obtain ⟨x1, x2, x3, x4⟩ := id u4
        obtain ⟨y1, y2, y3, y4⟩ := id u5
        have l1 : limbs 1 = [1] := limbs_lit' [1] (by decide) (by decide)
        have L1 := Lib.hid l1
        clear l1
        go_upto_region 8 with fail
        go_cut [6] (fun s6 wx => s6 = .bool true ∧ ∃ A8 c8, IntAt wx (w.heap.size + 1 + 1) (decide (mkI false (M + 1) < 0)) (.slice A8 (limbs (M + 1)).length c8) ∧ IntAt wx (w.heap.size + 1 + 1 + 1) false (.slice A5 (limbs (val ys - R)).length c5) ∧ Own (w.heap.size + 4) wx A8 c8 (limbs (M + 1)) ∧ Own (w.heap.size + 4) wx A5 c5 (limbs (val ys - R)) ∧ Below w.heap.size w wx)
        case first =>
          go_region_with (first
            | (go_at_call 77; refine (rFromInt_c 1 _ ?_ ?_).mono ?_; omega; omega; rintro e w6 ⟨A6, c6, rfl, r6, b6⟩; have b06 : Below wc.heap.size wc w6 := ((Below.refl wc.heap.size wc).drew).trans b6; have z6 : wc.heap.size ≤ w6.heap.size := b06.size; obtain ⟨x5, x6, x7, x8⟩ := u4.below b06 (by omega))
            | (go_at_call 83; refine (rIAdd_g (mkI false M) 1 (mkI false (M + 1)) _ _ _ _ A3 A6 c3 c6 _ rfl rfl ?_ ?_ ?_ ?_ ?_ ?_ ?_).mono ?_; (rw [mkI_natAbs]); rfl; exact o3.lim.below b06; exact r6.lim; exact lM; (show (limbs 1).length ≤ 70368744177660; rw [L1.out]; decide); (simp [mkI]; try omega); intro e w7 h7; obtain ⟨A7, c7, rfl, r7, b7⟩ := h7.mk; have b67 : Below wc.heap.size wc w7 := b06.trans (b7.mono z6); obtain ⟨x9, x10, x11, x12⟩ := u4.below b67 (by omega)))
          all_goals
            have vv4 := (u4.below b67 (by omega)).put (decide (mkI false (M + 1) < 0)) (.slice A7 (limbs (M + 1)).length c7)
            have vv5 := (u5.below b67 (by omega)).far (M := w.heap.size + 1 + 1) (by omega) (.bool (decide (mkI false (M + 1) < 0))) (.slice A7 (limbs (M + 1)).length c7)
            have vo5 := (o5.below b67).put2 (N := w.heap.size + 1 + 1) (by omega) (.bool (decide (mkI false (M + 1) < 0))) (.slice A7 (limbs (M + 1)).length c7)
            have vo7 := ((r7.mono (lo' := w.heap.size + 4) (by omega)).put2 (N := w.heap.size + 1 + 1) (by omega) (.bool (decide (mkI false (M + 1) < 0))) (.slice A7 (limbs (M + 1)).length c7))
            have vb := below_put2 (hend.trans (b67.mono hend.size)) (show w.heap.size ≤ w.heap.size + 1 + 1 by omega) (.bool (decide (mkI false (M + 1) < 0))) (.slice A7 (limbs (M + 1)).length c7)
            go_wp2_with fail
            go_meet
            exact ⟨rfl, A7, c7, vv4, vv5, vo7, vo5, vb⟩
        case rest =>
          obtain ⟨rfl, A8, c8, u6, u7, o8, o5, hend⟩ := hcut
          obtain ⟨x1, x2, x3, x4⟩ := u6
          obtain ⟨y1, y2, y3, y4⟩ := u7
          have hret := ret_divI (w := w) HE.out.1 HE.out.2 ((o8.put4 (N := w.heap.size + 1 + 1) (M := w.heap.size + 1 + 1 + 1) (by omega) (by omega) (.bool (decide (mkI false (M + 1) < 0))) (.slice A8 (limbs (M + 1)).length c8) (.bool false) (.slice A5 (limbs (val ys - R)).length c5)).mono (by omega)) ((o5.put4 (N := w.heap.size + 1 + 1) (M := w.heap.size + 1 + 1 + 1) (by omega) (by omega) (.bool (decide (mkI false (M + 1) < 0))) (.slice A8 (limbs (M + 1)).length c8) (.bool false) (.slice A5 (limbs (val ys - R)).length c5)).mono (by omega)) (below_put2 (below_put2 hend (show w.heap.size ≤ w.heap.size + 1 + 1 by omega) (.bool (decide (mkI false (M + 1) < 0))) (.slice A8 (limbs (M + 1)).length c8)) (show w.heap.size ≤ w.heap.size + 1 + 1 + 1 by omega) (.bool false) (.slice A5 (limbs (val ys - R)).length c5))
          have HRET := Lib.hid hret.drew
          clear hret o8 o5 u4 u5
          go_wp2_with fail
          go_region
          go_wp2_with fail
          exact bodyPost_ret (v := .tuple #[.agg #[.bool (decide (mkI false (M + 1) < 0)), .slice A8 (limbs (M + 1)).length c8], .agg #[.bool false, .slice A5 (limbs (val ys - R)).length c5], .bool true]) (by simp [results, Try.results116, go_sem, x1, x2, y1, y2]) rfl HRET.out
end Go.Proofs.Ytkpchamgghhihaa
