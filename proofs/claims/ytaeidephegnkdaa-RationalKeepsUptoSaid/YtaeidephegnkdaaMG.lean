/- RefI RefJ RefK IntF Box Pair RefM in one text. -/
import Derived.Test.YtaeidephegnkdaaRefH
import Derived.Test.YtaeidephegnkdaaNatM
import Derived.Deep.CutBlock
import Derived.Deep.DeepCutAuto
import Derived.Test.YtaeidephegnkdaaExt
namespace Go.Proofs.Ytaeidephegnkdaa
open Go.RowKit Gm
/- Contracts of the reference of layer 1: the greatest common divisor. -/

def GQ (K G : Nat) (w : World) (k : Nat) (a b : Value) (wr : World) : Prop :=
  ∃ (A B : Option Addr) (c d x y : Nat), y = k ∧ a = .slice A (limbs x).length c ∧ b = .slice B (limbs y).length d ∧ Own w.heap.size wr A c (limbs x) ∧ Own w.heap.size wr B d (limbs y) ∧ (limbs x).length ≤ K ∧ (limbs y).length ≤ K ∧ Hid (Nat.gcd x y = G) ∧ Below w.heap.size w wr

set_option maxHeartbeats 2000000 in
theorem rGCD_c (A B : Option Addr) (xs ys : List Nat) (c d K : Nat) (w : World) (ha : Lim w A c xs) (hb : Lim w B d ys) (hs : xs.length ≤ K) (ht : ys.length ≤ K) (hK : K ≤ 70368744177660) :
    Calls Try.prog 108 #[.slice A xs.length c, .slice B ys.length d] w (RetNat w (Nat.gcd (val xs) (val ys))) := by
  have la := limbs_length_le ha.lb
  have lb := limbs_length_le hb.lb
  obtain ⟨G, eG⟩ : ∃ G, Nat.gcd (val xs) (val ys) = G := ⟨_, rfl⟩
  rw [eG]
  have EG := Lib.hid eG
  clear eG
  go_enter Try.func108, Try.ntmps108
  go_wp2_with fail
  refine (rTrim_c _ _ _ _ ha (by omega)).mono ?_
  rintro e w1 ⟨A1, c1, rfl, r1, b1⟩
  go_wp2_with fail
  refine (rTrim_c _ _ _ _ (hb.below b1) (by omega)).mono ?_
  rintro e w2 ⟨A2, c2, rfl, r2, b2⟩
  have hst : GQ K G w (val ys) (.slice A1 (limbs (val xs)).length c1) (.slice A2 (limbs (val ys)).length c2) w2 := ⟨A1, A2, c1, c2, val xs, val ys, rfl, rfl, rfl, r1.below b2, r2.mono b1.size, by omega, by omega, EG, b1.trans (b2.mono b1.size)⟩
  clear r1 r2 b1 b2 ha hb
  go_wp2_with fail
  go_loopg [0, 1] (val ys) (fun k a b wr => GQ K G w k a b wr)
  case atStart => exact hst
  case round =>
    clear hst
    obtain ⟨A, B, c, d, x, y, rfl, rfl, rfl, hx, hy, hxK, hyK, hG, hbel⟩ := hrel
    rcases Nat.eq_zero_or_pos y with rfl | hy0
    · have HE := Lib.hid (show x = G by rw [← hG.out, Nat.gcd_zero_right])
      rw [limbs_zero]
      go_wp2_with fail
      go_ret
      rw [← HE.out]
      exact ⟨A, c, rfl, hx, hbel⟩
    · have lp : 0 < (limbs y).length := List.length_pos_iff.2 (fun e => by rw [limbs_eq_nil] at e; omega)
      go_wp2_with fail
      refine (rDivMod_c A B (limbs x) (limbs y) c d _ hx.lim hy.lim (by omega) (by omega) (by rw [val_limbs]; omega)).mono ?_
      rintro e w2 ⟨A1, c1, A2, c2, rfl, r1, r2, b2⟩
      rw [val_limbs, val_limbs] at r1 r2 ⊢
      have hmod := Nat.mod_lt x hy0
      have h2 := r2.mono (lo' := w.heap.size) hbel.size
      have hy2 := hy.below b2
      have hend := hbel.trans (b2.mono hbel.size)
      have lr : (limbs (x % y)).length ≤ K := Nat.le_trans (limbs_mono (Nat.le_of_lt hmod)) hyK
      clear r1 r2 b2
      go_wp2_with fail
      go_roundg (x % y)
      case measure => exact hmod
      case rel => exact ⟨B, A2, d, c2, y, x % y, rfl, rfl, rfl, hy2, h2, hyK, lr, Lib.hid (by rw [gcd_mod]; exact hG.out), hend⟩
theorem rGCD_n (A B : Option Addr) (xs ys : List Nat) (c d : Nat) (w : World) (m n s K L : Nat) (ha : Lim w A c xs) (hb : Lim w B d ys) (hs : xs.length ≤ K) (ht : ys.length ≤ L) (hm : val xs = m) (hn : val ys = n) (h : Nat.gcd m n = s) (hK : K ≤ 70368744177660) (hL : L ≤ 70368744177660) :
    Calls Try.prog 108 #[.slice A xs.length c, .slice B ys.length d] w (RetNat w s) := by
  subst hm hn h; exact rGCD_c A B xs ys c d (max K L) w ha hb (by omega) (by omega) (by omega)

theorem gcd_cop {a b : Nat} (h : 0 < Nat.gcd a b) : Nat.gcd (a / Nat.gcd a b) (b / Nat.gcd a b) = 1 := by
  rw [Nat.gcd_div (Nat.gcd_dvd_left a b) (Nat.gcd_dvd_right a b), Nat.div_self h]
theorem gcd_sz {m n s k l : Nat} (hm : (limbs m).length ≤ k) (hn : (limbs n).length ≤ k) (h : Nat.gcd m n = s) (hl : k ≤ l) : (limbs s).length ≤ l := by
  subst h
  rcases Nat.eq_zero_or_pos m with h0 | h0
  · subst h0; rw [Nat.gcd_zero_left]; omega
  · exact Nat.le_trans (limbs_mono (Nat.gcd_le_left n h0)) (by omega)

/- Contracts of the reference of layer 2: division. -/

/-- an integer variable at block N -/
structure IntAt (w : World) (N : Nat) (b : Bool) (s : Value) : Prop where
  c0 : w.cell? ⟨N, 0, none⟩ = some (.bool b)
  c1 : w.cell? ⟨N, 1, none⟩ = some s
  f0 : w.frozen? ⟨N, 0, none⟩ = false
  f1 : w.frozen? ⟨N, 1, none⟩ = false
theorem IntAt.below {B N : Nat} {w w' : World} {b : Bool} {s : Value} (h : IntAt w N b s) (hb : Below B w w') (hN : N < B) : IntAt w' N b s :=
  ⟨(hb.cell (p := ⟨N, 0, none⟩) hN).trans h.c0, (hb.cell (p := ⟨N, 1, none⟩) hN).trans h.c1, (hb.frozen (p := ⟨N, 0, none⟩) hN).trans h.f0, (hb.frozen (p := ⟨N, 1, none⟩) hN).trans h.f1⟩
theorem IntAt.lt {w : World} {N : Nat} {b : Bool} {s : Value} (h : IntAt w N b s) : N < w.heap.size := World.block_lt_of_cell? w _ h.c0
theorem IntAt.put {N : Nat} {w : World} {b : Bool} {s : Value} (h : IntAt w N b s) (b' : Bool) (s' : Value) : IntAt ((w.setCell ⟨N, 0, none⟩ (.bool b')).setCell ⟨N, 1, none⟩ s') N b' s' := by
  obtain ⟨h0, h1, h2, h3⟩ := h
  refine ⟨?_, ?_, ?_, ?_⟩ <;> go_simp
theorem IntAt.far {N M : Nat} {w : World} {b : Bool} {s : Value} (h : IntAt w N b s) (hM : N ≠ M) (u v : Value) : IntAt ((w.setCell ⟨M, 0, none⟩ u).setCell ⟨M, 1, none⟩ v) N b s := by
  have h1 := Below.heap_setCell w ⟨M, 0, none⟩ u N hM
  have h2 := Below.heap_setCell (w.setCell ⟨M, 0, none⟩ u) ⟨M, 1, none⟩ v N hM
  have h3 := h2.trans h1
  exact ⟨by rw [← h.c0]; simp only [World.cell?, h3], by rw [← h.c1]; simp only [World.cell?, h3], by rw [← h.f0]; simp only [World.frozen?, h3], by rw [← h.f1]; simp only [World.frozen?, h3]⟩

theorem cellF2 {w : World} {N o M : Nat} (h : N ≠ M) (u v : Value) : ((w.setCell ⟨M, 0, none⟩ u).setCell ⟨M, 1, none⟩ v).cell? ⟨N, o, none⟩ = w.cell? ⟨N, o, none⟩ := by
  have h1 := Below.heap_setCell w ⟨M, 0, none⟩ u N h
  have h2 := Below.heap_setCell (w.setCell ⟨M, 0, none⟩ u) ⟨M, 1, none⟩ v N h
  simp only [World.cell?, h2.trans h1]
theorem Make_k (b : Bool) (A : Option Addr) (m c : Nat) (w : World) (h : Lim w A c (limbs m)) (hs : (limbs m).length ≤ 70368744177664) :
    Calls Try.prog 53 #[.bool b, .slice A (limbs m).length c] w fun e w' => ∃ A' c', e = .returned (.agg #[.bool (decide (mkI b m < 0)), .slice A' (limbs m).length c']) ∧ Own w.heap.size w' A' c' (limbs m) ∧ Below w.heap.size w w' := by
  refine (Make_c b A (limbs m) c w h hs).mono ?_
  rintro e w' ⟨A', c', rfl, r, b'⟩
  rw [iv_eq, val_limbs, mkI_natAbs] at r ⊢
  exact ⟨A', c', rfl, r, b'⟩

theorem ret_divI {w w' : World} {b : Bool} {m n : Nat} {Q S : Int} {A B : Option Addr} {c d : Nat} (hq : Q = mkI b m) (hr : S = mkI false n) (ho : Own w.heap.size w' A c (limbs m)) (hp : Own w.heap.size w' B d (limbs n)) (hb : Below w.heap.size w w') :
    RetDivI w Q S (.returned (.tuple #[.agg #[.bool (decide (mkI b m < 0)), .slice A (limbs m).length c], .agg #[.bool false, .slice B (limbs n).length d], .bool true])) w' := by
  subst hq hr
  have e : decide (mkI false n < 0) = false := by simp [mkI]
  refine ⟨A, c, B, d, ?_, ?_, ?_, hb⟩
  · rw [mkI_natAbs, mkI_natAbs, e]
  · rw [mkI_natAbs]; exact ho
  · rw [mkI_natAbs]; exact hp
theorem RetDivI.drew {w w' : World} {q r : Int} {e : Ending} (h : RetDivI w q r e w') : RetDivI w q r e w'.drew := by
  obtain ⟨A, c, B, d, h1, h2, h3, h4⟩ := h
  exact ⟨A, c, B, d, h1, h2.drewN 1, h3.drewN 1, h4.drew⟩

set_option maxHeartbeats 1000000 in
theorem rIDivMod_zero (p q : Bool) (A B : Option Addr) (xs ys : List Nat) (c d : Nat) (w : World) (hb : Lim w B d ys) (ht : ys.length ≤ 70368744177664) (h0 : val ys = 0) :
    Calls Try.prog 71 #[.agg #[.bool p, .slice A xs.length c], .agg #[.bool q, .slice B ys.length d]] w fun e w' => e = .returned (.tuple #[.agg #[.bool false, .slice none 0 0], .agg #[.bool false, .slice none 0 0], .bool false]) ∧ Below w.heap.size w w' := by
  go_enter Try.func71, Try.ntmps71
  go_wp2_with fail
  obtain ⟨W, hW, hbW, hsz, k, kr, ks⟩ := four_boxes w p q (.slice A xs.length c) (.slice B ys.length d)
  rw [hW]
  clear hW
  refine (rDivMod_zero A B xs ys c d W (hb.below hbW) ht h0).mono ?_
  rintro e w1 ⟨rfl, b1⟩
  obtain ⟨g1, g2, g3, g4⟩ := keepR b1 (show w.heap.size + 1 + 1 < W.heap.size by omega) kr
  obtain ⟨g5, g6, g7, g8⟩ := keepR b1 (show w.heap.size + 1 + 1 + 1 < W.heap.size by omega) ks
  have hbel : Below w.heap.size w w1 := hbW.trans (b1.mono (by omega))
  have hfin := below_put2 (below_put2 hbel (show w.heap.size ≤ w.heap.size + 1 + 1 by omega) (.bool false) (.slice none 0 0)) (show w.heap.size ≤ w.heap.size + 1 + 1 + 1 by omega) (.bool false) (.slice none 0 0)
  clear k kr ks hbW b1 hbel
  go_wp2
  exact bodyPost_ret (v := .tuple #[.agg #[.bool false, .slice none 0 0], .agg #[.bool false, .slice none 0 0], .bool false]) (by simp [results, Try.results71, go_sem, g1, g2, g5, g6]) rfl ⟨rfl, hfin⟩

set_option maxHeartbeats 2000000 in
theorem rIDivMod_plain (p q : Bool) (A B : Option Addr) (xs ys : List Nat) (c d : Nat) (w : World) (ha : Lim w A c xs) (hb : Lim w B d ys) (hs : xs.length ≤ 70368744177660) (ht : ys.length ≤ 70368744177660) (h0 : val ys ≠ 0) (hp : p = false ∨ val xs % val ys = 0) :
    Calls Try.prog 71 #[.agg #[.bool p, .slice A xs.length c], .agg #[.bool q, .slice B ys.length d]] w (RetDivI w (iv p xs / iv q ys) (iv p xs % iv q ys)) := by
  have HE := Lib.hid (ediv_mk p q h0 hp)
  have hr0 : mkI p (val xs % val ys) = mkI false (val xs % val ys) := by
    rcases hp with h | h
    · rw [h]
    · rw [h]; cases p <;> rfl
  have lq : (limbs (val xs / val ys)).length ≤ 70368744177664 := Nat.le_trans (limbs_mono (Nat.div_le_self _ _)) (by have := limbs_length_le ha.lb; omega)
  have lr : (limbs (val xs % val ys)).length ≤ 70368744177664 := Nat.le_trans (limbs_mono (Nat.mod_le _ _)) (by have := limbs_length_le ha.lb; omega)
  have HR0 := Lib.hid hr0
  clear hr0 hp
  go_enter Try.func71, Try.ntmps71
  go_wp2_with fail
  obtain ⟨W, hW, hbW, hsz, k, kr, ks⟩ := four_boxes w p q (.slice A xs.length c) (.slice B ys.length d)
  rw [hW]
  clear hW
  refine (rDivMod_c A B xs ys c d W (ha.below hbW) (hb.below hbW) hs ht h0).mono ?_
  rintro e w1 ⟨A1, c1, A2, c2, rfl, r1, r2, b1⟩
  obtain ⟨m1, m2, m3, m4⟩ := keep2 b1 (show w.heap.size + 2 ≤ W.heap.size by omega) k
  obtain ⟨x1, x2, x3, x4⟩ := keepR b1 (show w.heap.size + 1 + 1 < W.heap.size by omega) kr
  obtain ⟨y1, y2, y3, y4⟩ := keepR b1 (show w.heap.size + 1 + 1 + 1 < W.heap.size by omega) ks
  have t4 : IntAt w1 (w.heap.size + 1 + 1) false (.slice none 0 0) := ⟨x1, x2, x3, x4⟩
  have t5 : IntAt w1 (w.heap.size + 1 + 1 + 1) false (.slice none 0 0) := ⟨y1, y2, y3, y4⟩
  have hz1 : w.heap.size + 4 ≤ w1.heap.size := by have := b1.size; omega
  have hbel : Below w.heap.size w w1 := hbW.trans (b1.mono (by omega))
  have q1 := r1.lim
  have q2 := r2.lim
  obtain ⟨M, eM⟩ : ∃ M, val xs / val ys = M := ⟨_, rfl⟩
  obtain ⟨R, eR⟩ : ∃ R, val xs % val ys = R := ⟨_, rfl⟩
  rw [eM] at HE q1 lq ⊢
  rw [eR] at HE HR0 q2 lr ⊢
  have j0 : w.heap.size < w1.heap.size := by omega
  have j1 : w.heap.size + 1 < w1.heap.size := by omega
  have tk0 : True := trivial
  have tk1 : True := trivial
  have hBel : Below w1.heap.size w1 w1.drew := (Below.refl _ _).drew
  clear k kr ks x1 x2 x3 x4 y1 y2 y3 y4 r1 r2 b1 hbW hsz eM eR ha hb
  go_upto_region 4 with fail
  go_cut [6] (fun s6 wx => s6 = .bool true ∧ ∃ A3 c3 A4 c4, IntAt wx (w.heap.size + 1 + 1) (decide (mkI (p != q) M < 0)) (.slice A3 (limbs M).length c3) ∧ IntAt wx (w.heap.size + 1 + 1 + 1) (decide (mkI p R < 0)) (.slice A4 (limbs R).length c4) ∧ Own (w.heap.size + 4) wx A3 c3 (limbs M) ∧ Own (w.heap.size + 4) wx A4 c4 (limbs R) ∧ Below w.heap.size w wx)
  case first =>
    go_region_held3 (fun w' => w'.cell? ⟨w.heap.size, 0, none⟩ = some (.bool p) ∧ w'.cell? ⟨w.heap.size + 1, 0, none⟩ = some (.bool q))
      (first | exact ⟨cellB hBel j0 m1, cellB hBel j1 m3⟩ | exact ⟨(cellF2 (by omega) _ _).trans (cellB hBel j0 m1), (cellF2 (by omega) _ _).trans (cellB hBel j1 m3)⟩ | exact ⟨((cellF2 (by omega) _ _).trans (cellF2 (by omega) _ _)).trans (cellB hBel j0 m1), ((cellF2 (by omega) _ _).trans (cellF2 (by omega) _ _)).trans (cellB hBel j1 m3)⟩ | go_keep)
      (first
        | (go_at_call 53; have _t := tk0; clear tk0; refine (Make_k (p != q) A1 M c1 _ ?_ lq).mono ?_; exact q1.below hBel; rintro e w2 ⟨A3, c3, rfl, r3, b3⟩; replace hBel := hBel.trans (b3.mono hBel.size))
        | (go_at_call 53; have _t := tk1; clear tk1; refine (Make_k p A2 R c2 _ ?_ lr).mono ?_; exact q2.below hBel; rintro e w3 ⟨A4, c4, rfl, r4, b4⟩; replace hBel := hBel.trans (b4.mono hBel.size); obtain ⟨x1, x2, x3, x4⟩ := t4.below hBel (by omega); obtain ⟨y1, y2, y3, y4⟩ := t5.below hBel (by omega)))
    rename_i hHeld
    clear hHeld
    have hend : Below w.heap.size w w3 := hbel.trans (hBel.mono hbel.size)
    have z2 : w1.heap.size ≤ w2.heap.size := b3.size
    have o3 : Own w.heap.size w3 A3 c3 (limbs M) ∧ Own w1.heap.size w3 A3 c3 (limbs M) := ⟨(r3.below b4).mono (show w.heap.size ≤ w1.heap.size by omega), r3.below b4⟩
    have o4 : Own w1.heap.size w3 A4 c4 (limbs R) := r4.mono z2
    have u4 := (t4.below hBel (by omega)).put (decide (mkI (p != q) M < 0)) (.slice A3 (limbs M).length c3)
    have u4' := u4.far (M := w.heap.size + 1 + 1 + 1) (by omega) (.bool (decide (mkI p R < 0))) (.slice A4 (limbs R).length c4)
    have u5 := ((t5.below hBel (by omega)).far (M := w.heap.size + 1 + 1) (by omega) (.bool (decide (mkI (p != q) M < 0))) (.slice A3 (limbs M).length c3)).put (decide (mkI p R < 0)) (.slice A4 (limbs R).length c4)
    have v3 := (o3.2.put4 (N := w.heap.size + 1 + 1) (M := w.heap.size + 1 + 1 + 1) (by omega) (by omega) (.bool (decide (mkI (p != q) M < 0))) (.slice A3 (limbs M).length c3) (.bool (decide (mkI p R < 0))) (.slice A4 (limbs R).length c4)).mono (lo' := w.heap.size + 4) (by omega)
    have v4 := (o4.put4 (N := w.heap.size + 1 + 1) (M := w.heap.size + 1 + 1 + 1) (by omega) (by omega) (.bool (decide (mkI (p != q) M < 0))) (.slice A3 (limbs M).length c3) (.bool (decide (mkI p R < 0))) (.slice A4 (limbs R).length c4)).mono (lo' := w.heap.size + 4) (by omega)
    have vb := below_put2 (below_put2 hend (show w.heap.size ≤ w.heap.size + 1 + 1 by omega) (.bool (decide (mkI (p != q) M < 0))) (.slice A3 (limbs M).length c3)) (show w.heap.size ≤ w.heap.size + 1 + 1 + 1 by omega) (.bool (decide (mkI p R < 0))) (.slice A4 (limbs R).length c4)
    clear r3 r4 b3 b4 x1 x2 x3 x4 y1 y2 y3 y4
    go_wp2_with fail
    go_meet
    exact ⟨rfl, A3, c3, A4, c4, u4', u5, v3, v4, vb⟩
  case rest =>
    obtain ⟨rfl, A3, c3, A4, c4, u4, u5, o3, o4, hend⟩ := hcut
    have hneg : decide (mkI p R < 0) = false := by rw [HR0.out]; simp [mkI]
    rw [hneg] at u5
    obtain ⟨x1, x2, x3, x4⟩ := u4
    obtain ⟨y1, y2, y3, y4⟩ := u5
    have HNEG := Lib.hid hneg
    clear hneg t4 t5 m1 m2 m3 m4 hBel q1 q2
    have hret := ret_divI (w := w) HE.out.1 HE.out.2 ((o3.put4 (N := w.heap.size + 1 + 1) (M := w.heap.size + 1 + 1 + 1) (by omega) (by omega) (.bool (decide (mkI (p != q) M < 0))) (.slice A3 (limbs M).length c3) (.bool false) (.slice A4 (limbs R).length c4)).mono (by omega)) ((o4.put4 (N := w.heap.size + 1 + 1) (M := w.heap.size + 1 + 1 + 1) (by omega) (by omega) (.bool (decide (mkI (p != q) M < 0))) (.slice A3 (limbs M).length c3) (.bool false) (.slice A4 (limbs R).length c4)).mono (by omega)) (below_put2 (below_put2 hend (show w.heap.size ≤ w.heap.size + 1 + 1 by omega) (.bool (decide (mkI (p != q) M < 0))) (.slice A3 (limbs M).length c3)) (show w.heap.size ≤ w.heap.size + 1 + 1 + 1 by omega) (.bool false) (.slice A4 (limbs R).length c4))
    have HRET := Lib.hid hret.drew
    clear hret o3 o4
    go_wp2_with fail
    go_region
    go_wp2_with fail
    exact bodyPost_ret (v := .tuple #[.agg #[.bool (decide (mkI (p != q) M < 0)), .slice A3 (limbs M).length c3], .agg #[.bool false, .slice A4 (limbs R).length c4], .bool true]) (by simp [results, Try.results71, go_sem, x1, x2, y1, y2]) rfl HRET.out

/- Contracts of the reference of layer 2: division with a negative dividend. -/

theorem rIAdd_g (m n s : Int) (b1 b2 : Bool) (us vs : List Nat) (A B : Option Addr) (c d : Nat) (w : World) (h1 : decide (m < 0) = b1) (h2 : decide (n < 0) = b2) (e1 : limbs m.natAbs = us) (e2 : limbs n.natAbs = vs) (ha : Lim w A c us) (hb : Lim w B d vs) (hs : us.length ≤ 70368744177660) (ht : vs.length ≤ 70368744177660) (h : m + n = s) :
    Calls Try.prog 77 #[.agg #[.bool b1, .slice A us.length c], .agg #[.bool b2, .slice B vs.length d]] w (RetInt w s) := by
  subst h1 h2 e1 e2
  exact rIAdd_n _ _ A B _ _ c d w m n s 70368744177660 70368744177660 ha hb hs ht (iv_canon m) (iv_canon n) h (by omega) (by omega)
theorem rISub_g (m n s : Int) (b1 b2 : Bool) (us vs : List Nat) (A B : Option Addr) (c d : Nat) (w : World) (h1 : decide (m < 0) = b1) (h2 : decide (n < 0) = b2) (e1 : limbs m.natAbs = us) (e2 : limbs n.natAbs = vs) (ha : Lim w A c us) (hb : Lim w B d vs) (hs : us.length ≤ 70368744177660) (ht : vs.length ≤ 70368744177660) (h : m - n = s) :
    Calls Try.prog 52 #[.agg #[.bool b1, .slice A us.length c], .agg #[.bool b2, .slice B vs.length d]] w (RetInt w s) := by
  subst h1 h2 e1 e2
  exact rISub_n _ _ A B _ _ c d w m n s 70368744177660 70368744177660 ha hb hs ht (iv_canon m) (iv_canon n) h (by omega) (by omega)
/-- an integer that is made of a sign and a magnitude -/
theorem RetInt.mk {w w' : World} {b : Bool} {m : Nat} {e : Ending} (h : RetInt w (mkI b m) e w') : ∃ A c, e = .returned (.agg #[.bool (decide (mkI b m < 0)), .slice A (limbs m).length c]) ∧ Own w.heap.size w' A c (limbs m) ∧ Below w.heap.size w w' := by
  obtain ⟨A, c, h1, h2, h3⟩ := h
  rw [mkI_natAbs] at h1 h2
  exact ⟨A, c, h1, h2, h3⟩
theorem rAdd_adj (A B : Option Addr) (c d R V : Nat) (w : World) (ha : Lim w A c (limbs R)) (hb : Lim w B d (limbs V)) (hR : (limbs R).length ≤ 70368744177660) (hV : (limbs V).length ≤ 70368744177660) (hle : R ≤ V) :
    Calls Try.prog 77 #[.agg #[.bool true, .slice A (limbs R).length c], .agg #[.bool (decide (((V : Nat) : Int) < 0)), .slice B (limbs V).length d]] w fun e w' => ∃ A' c', e = .returned (.agg #[.bool false, .slice A' (limbs (V - R)).length c']) ∧ Own w.heap.size w' A' c' (limbs (V - R)) ∧ Below w.heap.size w w' := by
  have e1 : iv true (limbs R) = -((R : Nat) : Int) := by simp [iv, val_limbs]
  have e2 : iv (decide (((V : Nat) : Int) < 0)) (limbs V) = ((V : Nat) : Int) := by
    have := iv_canon ((V : Nat) : Int)
    rwa [Int.natAbs_natCast] at this
  refine (rIAdd_n true (decide (((V : Nat) : Int) < 0)) A B (limbs R) (limbs V) c d w (-((R : Nat) : Int)) ((V : Nat) : Int) (((V - R : Nat) : Nat) : Int) 70368744177660 70368744177660 ha hb hR hV e1 e2 (by omega) (by omega) (by omega)).mono ?_
  rintro e w' ⟨A', c', rfl, r, b⟩
  rw [Int.natAbs_natCast] at r ⊢
  rw [show decide (((V - R : Nat) : Int) < 0) = false by rw [decide_eq_false_iff_not]; omega]
  exact ⟨A', c', rfl, r, b⟩

set_option maxRecDepth 100000 in
set_option maxHeartbeats 2000000 in
theorem rIDivMod_adj (q : Bool) (A B : Option Addr) (xs ys : List Nat) (c d : Nat) (w : World) (ha : Lim w A c xs) (hb : Lim w B d ys) (hs : xs.length ≤ 70368744177660) (ht : ys.length ≤ 70368744177660) (h0 : val ys ≠ 0) (hr : val xs % val ys ≠ 0) :
    Calls Try.prog 71 #[.agg #[.bool true, .slice A xs.length c], .agg #[.bool q, .slice B ys.length d]] w (RetDivI w (iv true xs / iv q ys) (iv true xs % iv q ys)) := by
  have hE := ediv_mk' q h0 hr
  rw [show (true != q) = !q by cases q <;> rfl] at hE
  have HE := Lib.hid hE
  clear hE
  have hrlt := Nat.mod_lt (val xs) (show 0 < val ys by omega)
  have lM0 := Lib.hid (show (limbs (val xs / val ys)).length ≤ 70368744177660 from Nat.le_trans (limbs_mono (Nat.div_le_self _ _)) (by have := limbs_length_le ha.lb; omega))
  have lq : (limbs (val xs / val ys)).length ≤ 70368744177664 := Nat.le_trans (limbs_mono (Nat.div_le_self _ _)) (by have := limbs_length_le ha.lb; omega)
  have lr : (limbs (val xs % val ys)).length ≤ 70368744177664 := Nat.le_trans (limbs_mono (Nat.mod_le _ _)) (by have := limbs_length_le ha.lb; omega)
  go_enter Try.func71, Try.ntmps71
  go_wp2_with fail
  obtain ⟨W, hW, hbW, hsz, k, kr, ks⟩ := four_boxes w true q (.slice A xs.length c) (.slice B ys.length d)
  rw [hW]
  clear hW
  refine (rDivMod_c A B xs ys c d W (ha.below hbW) (hb.below hbW) hs ht h0).mono ?_
  rintro e w1 ⟨A1, c1, A2, c2, rfl, r1, r2, b1⟩
  obtain ⟨m1, m2, m3, m4⟩ := keep2 b1 (show w.heap.size + 2 ≤ W.heap.size by omega) k
  obtain ⟨x1, x2, x3, x4⟩ := keepR b1 (show w.heap.size + 1 + 1 < W.heap.size by omega) kr
  obtain ⟨y1, y2, y3, y4⟩ := keepR b1 (show w.heap.size + 1 + 1 + 1 < W.heap.size by omega) ks
  have t4 : IntAt w1 (w.heap.size + 1 + 1) false (.slice none 0 0) := ⟨x1, x2, x3, x4⟩
  have t5 : IntAt w1 (w.heap.size + 1 + 1 + 1) false (.slice none 0 0) := ⟨y1, y2, y3, y4⟩
  have hz1 : w.heap.size + 4 ≤ w1.heap.size := by have := b1.size; omega
  have hbel : Below w.heap.size w w1 := hbW.trans (b1.mono (by omega))
  have q1 := r1.lim
  have q2 := r2.lim
  obtain ⟨M, eM⟩ : ∃ M, val xs / val ys = M := ⟨_, rfl⟩
  obtain ⟨R, eR⟩ : ∃ R, val xs % val ys = R := ⟨_, rfl⟩
  rw [eM] at HE q1 lq lM0 ⊢
  rw [eR] at HE q2 lr hr hrlt ⊢
  have j0 : w.heap.size < w1.heap.size := by omega
  have j1 : w.heap.size + 1 < w1.heap.size := by omega
  have tk0 : True := trivial
  have tk1 : True := trivial
  have hBel : Below w1.heap.size w1 w1.drew := (Below.refl _ _).drew
  clear k kr ks x1 x2 x3 x4 y1 y2 y3 y4 r1 r2 b1 hbW hsz eM eR ha
  have hK3 : w1.cell? ⟨w.heap.size + 1, 1, none⟩ = some (.slice B ys.length d) := m4
  go_upto_region 4 with fail
  go_cut [6] (fun s6 wx => s6 = .bool true ∧ ∃ A3 c3 A4 c4, IntAt wx (w.heap.size + 1 + 1) (decide (mkI (!q) M < 0)) (.slice A3 (limbs M).length c3) ∧ IntAt wx (w.heap.size + 1 + 1 + 1) (decide (mkI true R < 0)) (.slice A4 (limbs R).length c4) ∧ Own (w.heap.size + 4) wx A3 c3 (limbs M) ∧ Own (w.heap.size + 4) wx A4 c4 (limbs R) ∧ Below w.heap.size w wx ∧ Below (w.heap.size + 1 + 1) w1 wx)
  case first =>
    go_region_held3 (fun w' => w'.cell? ⟨w.heap.size, 0, none⟩ = some (.bool true) ∧ w'.cell? ⟨w.heap.size + 1, 0, none⟩ = some (.bool q))
      (first | exact ⟨cellB hBel j0 m1, cellB hBel j1 m3⟩ | exact ⟨(cellF2 (by omega) _ _).trans (cellB hBel j0 m1), (cellF2 (by omega) _ _).trans (cellB hBel j1 m3)⟩ | exact ⟨((cellF2 (by omega) _ _).trans (cellF2 (by omega) _ _)).trans (cellB hBel j0 m1), ((cellF2 (by omega) _ _).trans (cellF2 (by omega) _ _)).trans (cellB hBel j1 m3)⟩ | go_keep)
      (first
        | (go_at_call 53; have _t := tk0; clear tk0; refine (Make_k (!q) A1 M c1 _ ?_ lq).mono ?_; exact q1.below hBel; rintro e w2 ⟨A3, c3, rfl, r3, b3⟩; replace hBel := hBel.trans (b3.mono hBel.size))
        | (go_at_call 53; have _t := tk1; clear tk1; refine (Make_k true A2 R c2 _ ?_ lr).mono ?_; exact q2.below hBel; rintro e w3 ⟨A4, c4, rfl, r4, b4⟩; replace hBel := hBel.trans (b4.mono hBel.size); obtain ⟨x1, x2, x3, x4⟩ := t4.below hBel (by omega); obtain ⟨y1, y2, y3, y4⟩ := t5.below hBel (by omega)))
    rename_i hHeld
    clear hHeld
    have hend : Below w.heap.size w w3 := hbel.trans (hBel.mono hbel.size)
    have z2 : w1.heap.size ≤ w2.heap.size := b3.size
    have o3 : Own w.heap.size w3 A3 c3 (limbs M) ∧ Own w1.heap.size w3 A3 c3 (limbs M) := ⟨(r3.below b4).mono (show w.heap.size ≤ w1.heap.size by omega), r3.below b4⟩
    have o4 : Own w1.heap.size w3 A4 c4 (limbs R) := r4.mono z2
    have u4 := (t4.below hBel (by omega)).put (decide (mkI (!q) M < 0)) (.slice A3 (limbs M).length c3)
    have u4' := u4.far (M := w.heap.size + 1 + 1 + 1) (by omega) (.bool (decide (mkI true R < 0))) (.slice A4 (limbs R).length c4)
    have u5 := ((t5.below hBel (by omega)).far (M := w.heap.size + 1 + 1) (by omega) (.bool (decide (mkI (!q) M < 0))) (.slice A3 (limbs M).length c3)).put (decide (mkI true R < 0)) (.slice A4 (limbs R).length c4)
    have v3 := (o3.2.put4 (N := w.heap.size + 1 + 1) (M := w.heap.size + 1 + 1 + 1) (by omega) (by omega) (.bool (decide (mkI (!q) M < 0))) (.slice A3 (limbs M).length c3) (.bool (decide (mkI true R < 0))) (.slice A4 (limbs R).length c4)).mono (lo' := w.heap.size + 4) (by omega)
    have v4 := (o4.put4 (N := w.heap.size + 1 + 1) (M := w.heap.size + 1 + 1 + 1) (by omega) (by omega) (.bool (decide (mkI (!q) M < 0))) (.slice A3 (limbs M).length c3) (.bool (decide (mkI true R < 0))) (.slice A4 (limbs R).length c4)).mono (lo' := w.heap.size + 4) (by omega)
    have vb := below_put2 (below_put2 hend (show w.heap.size ≤ w.heap.size + 1 + 1 by omega) (.bool (decide (mkI (!q) M < 0))) (.slice A3 (limbs M).length c3)) (show w.heap.size ≤ w.heap.size + 1 + 1 + 1 by omega) (.bool (decide (mkI true R < 0))) (.slice A4 (limbs R).length c4)
    have vb2 := below_put2 (below_put2 (hBel.mono (show w.heap.size + 1 + 1 ≤ w1.heap.size by omega)) (Nat.le_refl _) (.bool (decide (mkI (!q) M < 0))) (.slice A3 (limbs M).length c3)) (show w.heap.size + 1 + 1 ≤ w.heap.size + 1 + 1 + 1 by omega) (.bool (decide (mkI true R < 0))) (.slice A4 (limbs R).length c4)
    clear r3 r4 b3 b4 x1 x2 x3 x4 y1 y2 y3 y4
    go_wp2_with fail
    go_meet
    exact ⟨rfl, A3, c3, A4, c4, u4', u5, v3, v4, vb, vb2⟩
  case rest =>
    obtain ⟨rfl, A3, c3, A4, c4, u4, u5, o3, o4, hend, hb12⟩ := hcut
    have hbs := hb.below hend
    have hneg : decide (mkI true R < 0) = true := by rw [decide_eq_true_iff]; simp only [mkI, if_true]; omega
    rw [hneg] at u5
    have n1 : wc.cell? ⟨w.heap.size + 1, 0, none⟩ = some (.bool q) := (hb12.cell (p := ⟨w.heap.size + 1, 0, none⟩) (show w.heap.size + 1 < w.heap.size + 1 + 1 by omega)).trans m3
    have n2 : wc.cell? ⟨w.heap.size + 1, 1, none⟩ = some (.slice B ys.length d) := (hb12.cell (p := ⟨w.heap.size + 1, 1, none⟩) (show w.heap.size + 1 < w.heap.size + 1 + 1 by omega)).trans m4
    obtain ⟨x1, x2, x3, x4⟩ := id u4
    obtain ⟨y1, y2, y3, y4⟩ := id u5
    have hz4 : w.heap.size + 4 ≤ wc.heap.size := by have := World.block_lt_of_cell? wc _ y1; simp at this; omega
    clear t4 t5 m1 m2 m3 m4 hBel q1 q2 hneg tk0 tk1
    have o4l := o4.lim
    have lV : (limbs (val ys)).length ≤ 70368744177660 := Nat.le_trans (limbs_length_le hb.lb) ht
    have lR : (limbs R).length ≤ 70368744177660 := Nat.le_trans (limbs_mono (Nat.le_of_lt hrlt)) lV
    have iy : iv q ys = mkI q (val ys) := rfl
    go_upto_region 6 with fail
    go_cut [6] (fun s6 wx => s6 = .bool true ∧ ∃ A5 c5, IntAt wx (w.heap.size + 1 + 1) (decide (mkI (!q) M < 0)) (.slice A3 (limbs M).length c3) ∧ IntAt wx (w.heap.size + 1 + 1 + 1) false (.slice A5 (limbs (val ys - R)).length c5) ∧ Own (w.heap.size + 4) wx A3 c3 (limbs M) ∧ Own (w.heap.size + 4) wx A5 c5 (limbs (val ys - R)) ∧ Below w.heap.size w wx ∧ wx.cell? ⟨w.heap.size + 1, 0, none⟩ = some (.bool q))
    case first =>
      go_region_with (first
        | (go_at_call 13; refine (rAbs_n q B ys d _ (mkI q (val ys)) ((val ys : Nat) : Int) 70368744177660 ?_ ht iy ?_ ?_).mono ?_; exact hbs.drewN 1; (rw [mkI_natAbs]); omega; rintro e w6 ⟨A6, c6, rfl, r6, b6⟩; have b06 : Below wc.heap.size wc w6 := ((Below.refl wc.heap.size wc).drew).trans b6; have z6 : wc.heap.size ≤ w6.heap.size := b06.size; obtain ⟨y5, y6, y7, y8⟩ := u5.below b06 (by omega))
        | (go_at_call 77; refine (rAdd_adj A4 A6 c4 c6 R (val ys) _ ?_ ?_ ?_ ?_ ?_).mono ?_; exact o4l.below b06; exact r6.lim; exact lR; exact lV; exact Nat.le_of_lt hrlt; rintro e w7 ⟨A7, c7, rfl, r7, b7⟩; have b67 : Below wc.heap.size wc w7 := b06.trans (b7.mono z6); obtain ⟨y9, y10, y11, y12⟩ := u5.below b67 (by omega)))
      all_goals
        have vv4 := (u4.below b67 (by omega)).far (M := w.heap.size + 1 + 1 + 1) (by omega) (.bool false) (.slice A7 (limbs (val ys - R)).length c7)
        have vv5 := (u5.below b67 (by omega)).put false (.slice A7 (limbs (val ys - R)).length c7)
        have vo3 := (o3.below b67).put2 (N := w.heap.size + 1 + 1 + 1) (by omega) (.bool false) (.slice A7 (limbs (val ys - R)).length c7)
        have vo7 := ((r7.mono (lo' := w.heap.size + 4) (by omega)).put2 (N := w.heap.size + 1 + 1 + 1) (by omega) (.bool false) (.slice A7 (limbs (val ys - R)).length c7))
        have vb := below_put2 (hend.trans (b67.mono hend.size)) (show w.heap.size ≤ w.heap.size + 1 + 1 + 1 by omega) (.bool false) (.slice A7 (limbs (val ys - R)).length c7)
        have vn := (cellF2 (w := w7) (o := 0) (show w.heap.size + 1 ≠ w.heap.size + 1 + 1 + 1 by omega) (.bool false) (.slice A7 (limbs (val ys - R)).length c7)).trans (cellB b67 (by omega) n1)
        go_wp2_with fail
        go_meet
        exact ⟨rfl, A7, c7, vv4, vv5, vo3, vo7, vb, vn⟩
    case rest =>
      clear u4 u5 x1 x2 x3 x4 y1 y2 y3 y4 o3 o4 n1 n2 hbs o4l hend hb12 hz4
      obtain ⟨rfl, A5, c5, u4, u5, o3, o5, hend, n1⟩ := hcut
      have hz4 : w.heap.size + 4 ≤ wc.heap.size := by have := u5.lt; omega
      have lM : (limbs M).length ≤ 70368744177660 := lM0.out
      cases q
      · rw [show (!false) = true from rfl] at *
        obtain ⟨x1, x2, x3, x4⟩ := id u4
        obtain ⟨y1, y2, y3, y4⟩ := id u5
        have l1 : limbs 1 = [1] := limbs_lit' [1] (by decide) (by decide)
        have L1 := Lib.hid l1
        clear l1
        go_upto_region 9 with fail
        go_cut [6] (fun s6 wx => s6 = .bool true ∧ ∃ A8 c8, IntAt wx (w.heap.size + 1 + 1) (decide (mkI true (M + 1) < 0)) (.slice A8 (limbs (M + 1)).length c8) ∧ IntAt wx (w.heap.size + 1 + 1 + 1) false (.slice A5 (limbs (val ys - R)).length c5) ∧ Own (w.heap.size + 4) wx A8 c8 (limbs (M + 1)) ∧ Own (w.heap.size + 4) wx A5 c5 (limbs (val ys - R)) ∧ Below w.heap.size w wx)
        case first =>
          go_region_with (first
            | (go_at_call 16; refine (rFromInt_c 1 _ ?_ ?_).mono ?_; omega; omega; rintro e w6 ⟨A6, c6, rfl, r6, b6⟩; have b06 : Below wc.heap.size wc w6 := ((Below.refl wc.heap.size wc).drew).trans b6; have z6 : wc.heap.size ≤ w6.heap.size := b06.size; obtain ⟨x5, x6, x7, x8⟩ := u4.below b06 (by omega))
            | (go_at_call 52; refine (rISub_g (mkI true M) 1 (mkI true (M + 1)) _ _ _ _ A3 A6 c3 c6 _ rfl rfl ?_ ?_ ?_ ?_ ?_ ?_ ?_).mono ?_; (rw [mkI_natAbs]); rfl; exact o3.lim.below b06; exact r6.lim; exact lM; (show (limbs 1).length ≤ 70368744177660; rw [L1.out]; decide); (simp [mkI]; try omega); intro e w7 h7; obtain ⟨A7, c7, rfl, r7, b7⟩ := h7.mk; have b67 : Below wc.heap.size wc w7 := b06.trans (b7.mono z6); obtain ⟨x9, x10, x11, x12⟩ := u4.below b67 (by omega)))
          all_goals
            have vv4 := (u4.below b67 (by omega)).put (decide (mkI true (M + 1) < 0)) (.slice A7 (limbs (M + 1)).length c7)
            have vv5 := (u5.below b67 (by omega)).far (M := w.heap.size + 1 + 1) (by omega) (.bool (decide (mkI true (M + 1) < 0))) (.slice A7 (limbs (M + 1)).length c7)
            have vo5 := (o5.below b67).put2 (N := w.heap.size + 1 + 1) (by omega) (.bool (decide (mkI true (M + 1) < 0))) (.slice A7 (limbs (M + 1)).length c7)
            have vo7 := ((r7.mono (lo' := w.heap.size + 4) (by omega)).put2 (N := w.heap.size + 1 + 1) (by omega) (.bool (decide (mkI true (M + 1) < 0))) (.slice A7 (limbs (M + 1)).length c7))
            have vb := below_put2 (hend.trans (b67.mono hend.size)) (show w.heap.size ≤ w.heap.size + 1 + 1 by omega) (.bool (decide (mkI true (M + 1) < 0))) (.slice A7 (limbs (M + 1)).length c7)
            go_wp2_with fail
            go_meet
            exact ⟨rfl, A7, c7, vv4, vv5, vo7, vo5, vb⟩
        case rest =>
          obtain ⟨rfl, A8, c8, u6, u7, o8, o5, hend⟩ := hcut
          obtain ⟨x1, x2, x3, x4⟩ := u6
          obtain ⟨y1, y2, y3, y4⟩ := u7
          have hret := ret_divI (w := w) HE.out.1 HE.out.2 ((o8.put4 (N := w.heap.size + 1 + 1) (M := w.heap.size + 1 + 1 + 1) (by omega) (by omega) (.bool (decide (mkI true (M + 1) < 0))) (.slice A8 (limbs (M + 1)).length c8) (.bool false) (.slice A5 (limbs (val ys - R)).length c5)).mono (by omega)) ((o5.put4 (N := w.heap.size + 1 + 1) (M := w.heap.size + 1 + 1 + 1) (by omega) (by omega) (.bool (decide (mkI true (M + 1) < 0))) (.slice A8 (limbs (M + 1)).length c8) (.bool false) (.slice A5 (limbs (val ys - R)).length c5)).mono (by omega)) (below_put2 (below_put2 hend (show w.heap.size ≤ w.heap.size + 1 + 1 by omega) (.bool (decide (mkI true (M + 1) < 0))) (.slice A8 (limbs (M + 1)).length c8)) (show w.heap.size ≤ w.heap.size + 1 + 1 + 1 by omega) (.bool false) (.slice A5 (limbs (val ys - R)).length c5))
          have HRET := Lib.hid hret.drew
          clear hret o8 o5 u4 u5
          go_wp2_with fail
          go_region
          go_wp2_with fail
          exact bodyPost_ret (v := .tuple #[.agg #[.bool (decide (mkI true (M + 1) < 0)), .slice A8 (limbs (M + 1)).length c8], .agg #[.bool false, .slice A5 (limbs (val ys - R)).length c5], .bool true]) (by simp [results, Try.results71, go_sem, x1, x2, y1, y2]) rfl HRET.out
      · rw [show (!true) = false from rfl] at *
        obtain ⟨x1, x2, x3, x4⟩ := id u4
        obtain ⟨y1, y2, y3, y4⟩ := id u5
        have l1 : limbs 1 = [1] := limbs_lit' [1] (by decide) (by decide)
        have L1 := Lib.hid l1
        clear l1
        go_upto_region 8 with fail
        go_cut [6] (fun s6 wx => s6 = .bool true ∧ ∃ A8 c8, IntAt wx (w.heap.size + 1 + 1) (decide (mkI false (M + 1) < 0)) (.slice A8 (limbs (M + 1)).length c8) ∧ IntAt wx (w.heap.size + 1 + 1 + 1) false (.slice A5 (limbs (val ys - R)).length c5) ∧ Own (w.heap.size + 4) wx A8 c8 (limbs (M + 1)) ∧ Own (w.heap.size + 4) wx A5 c5 (limbs (val ys - R)) ∧ Below w.heap.size w wx)
        case first =>
          go_region_with (first
            | (go_at_call 16; refine (rFromInt_c 1 _ ?_ ?_).mono ?_; omega; omega; rintro e w6 ⟨A6, c6, rfl, r6, b6⟩; have b06 : Below wc.heap.size wc w6 := ((Below.refl wc.heap.size wc).drew).trans b6; have z6 : wc.heap.size ≤ w6.heap.size := b06.size; obtain ⟨x5, x6, x7, x8⟩ := u4.below b06 (by omega))
            | (go_at_call 77; refine (rIAdd_g (mkI false M) 1 (mkI false (M + 1)) _ _ _ _ A3 A6 c3 c6 _ rfl rfl ?_ ?_ ?_ ?_ ?_ ?_ ?_).mono ?_; (rw [mkI_natAbs]); rfl; exact o3.lim.below b06; exact r6.lim; exact lM; (show (limbs 1).length ≤ 70368744177660; rw [L1.out]; decide); (simp [mkI]; try omega); intro e w7 h7; obtain ⟨A7, c7, rfl, r7, b7⟩ := h7.mk; have b67 : Below wc.heap.size wc w7 := b06.trans (b7.mono z6); obtain ⟨x9, x10, x11, x12⟩ := u4.below b67 (by omega)))
          all_goals
            have vv4 := (u4.below b67 (by omega)).put (decide (mkI false (M + 1) < 0)) (.slice A7 (limbs (M + 1)).length c7)
            have vv5 := (u5.below b67 (by omega)).far (M := w.heap.size + 1 + 1) (by omega) (.bool (decide (mkI false (M + 1) < 0))) (.slice A7 (limbs (M + 1)).length c7)
            have vo5 := (o5.below b67).put2 (N := w.heap.size + 1 + 1) (by omega) (.bool (decide (mkI false (M + 1) < 0))) (.slice A7 (limbs (M + 1)).length c7)
            have vo7 := ((r7.mono (lo' := w.heap.size + 4) (by omega)).put2 (N := w.heap.size + 1 + 1) (by omega) (.bool (decide (mkI false (M + 1) < 0))) (.slice A7 (limbs (M + 1)).length c7))
            have vb := below_put2 (hend.trans (b67.mono hend.size)) (show w.heap.size ≤ w.heap.size + 1 + 1 by omega) (.bool (decide (mkI false (M + 1) < 0))) (.slice A7 (limbs (M + 1)).length c7)
            go_wp2_with fail
            go_meet
            exact ⟨rfl, A7, c7, vv4, vv5, vo7, vo5, vb⟩
        case rest =>
          obtain ⟨rfl, A8, c8, u6, u7, o8, o5, hend⟩ := hcut
          obtain ⟨x1, x2, x3, x4⟩ := u6
          obtain ⟨y1, y2, y3, y4⟩ := u7
          have hret := ret_divI (w := w) HE.out.1 HE.out.2 ((o8.put4 (N := w.heap.size + 1 + 1) (M := w.heap.size + 1 + 1 + 1) (by omega) (by omega) (.bool (decide (mkI false (M + 1) < 0))) (.slice A8 (limbs (M + 1)).length c8) (.bool false) (.slice A5 (limbs (val ys - R)).length c5)).mono (by omega)) ((o5.put4 (N := w.heap.size + 1 + 1) (M := w.heap.size + 1 + 1 + 1) (by omega) (by omega) (.bool (decide (mkI false (M + 1) < 0))) (.slice A8 (limbs (M + 1)).length c8) (.bool false) (.slice A5 (limbs (val ys - R)).length c5)).mono (by omega)) (below_put2 (below_put2 hend (show w.heap.size ≤ w.heap.size + 1 + 1 by omega) (.bool (decide (mkI false (M + 1) < 0))) (.slice A8 (limbs (M + 1)).length c8)) (show w.heap.size ≤ w.heap.size + 1 + 1 + 1 by omega) (.bool false) (.slice A5 (limbs (val ys - R)).length c5))
          have HRET := Lib.hid hret.drew
          clear hret o8 o5 u4 u5
          go_wp2_with fail
          go_region
          go_wp2_with fail
          exact bodyPost_ret (v := .tuple #[.agg #[.bool (decide (mkI false (M + 1) < 0)), .slice A8 (limbs (M + 1)).length c8], .agg #[.bool false, .slice A5 (limbs (val ys - R)).length c5], .bool true]) (by simp [results, Try.results71, go_sem, x1, x2, y1, y2]) rfl HRET.out

/- Contracts of package integer and of its reference: division in full, with named results; the greatest common divisor. -/

theorem rIDivMod_c (p q : Bool) (A B : Option Addr) (xs ys : List Nat) (c d : Nat) (w : World) (ha : Lim w A c xs) (hb : Lim w B d ys) (hs : xs.length ≤ 70368744177660) (ht : ys.length ≤ 70368744177660) (h0 : val ys ≠ 0) :
    Calls Try.prog 71 #[.agg #[.bool p, .slice A xs.length c], .agg #[.bool q, .slice B ys.length d]] w (RetDivI w (iv p xs / iv q ys) (iv p xs % iv q ys)) := by
  by_cases h : p = false ∨ val xs % val ys = 0
  · exact rIDivMod_plain p q A B xs ys c d w ha hb hs ht h0 h
  · obtain rfl : p = true := by cases p <;> simp_all
    exact rIDivMod_adj q A B xs ys c d w ha hb hs ht h0 (fun e => h (.inr e))

theorem iv_zero {q : Bool} {ys : List Nat} : iv q ys = 0 ↔ val ys = 0 := by unfold iv; cases q <;> simp

/-- what the division by 0 returns -/
def RetDivI0 (w : World) (e : Ending) (w' : World) : Prop := e = .returned (.tuple #[.agg #[.bool false, .slice none 0 0], .agg #[.bool false, .slice none 0 0], .bool false]) ∧ Below w.heap.size w w'

set_option maxHeartbeats 1000000 in
theorem IDivMod_zero (p q : Bool) (A B : Option Addr) (xs ys : List Nat) (c d : Nat) (w : World) (ha : Lim w A c xs) (hb : Lim w B d ys) (h0 : val ys = 0) :
    Calls Try.prog 82 #[.agg #[.bool p, .slice A xs.length c], .agg #[.bool q, .slice B ys.length d]] w (RetDivI0 w) := by
  go_enter Try.func82, Try.ntmps82
  go_wp2_with fail
  obtain ⟨W, hW, hbW, hsz, k, kr, ks⟩ := four_boxes w p q (.slice A xs.length c) (.slice B ys.length d)
  rw [hW]
  clear hW
  refine (DivMod_zero A B xs ys c d W (ha.below hbW) (hb.below hbW) h0).mono ?_
  rintro e w1 ⟨rfl, rfl⟩
  obtain ⟨g1, g2, g3, g4⟩ := kr
  obtain ⟨g5, g6, g7, g8⟩ := ks
  have hfin := below_put2 (below_put2 hbW (show w.heap.size ≤ w.heap.size + 1 + 1 by omega) (.bool false) (.slice none 0 0)) (show w.heap.size ≤ w.heap.size + 1 + 1 + 1 by omega) (.bool false) (.slice none 0 0)
  clear k
  go_wp2
  exact bodyPost_ret (v := .tuple #[.agg #[.bool false, .slice none 0 0], .agg #[.bool false, .slice none 0 0], .bool false]) (by simp [results, Try.results82, go_sem, g1, g2, g5, g6]) rfl ⟨rfl, hfin⟩

section
variable (p q : Bool) (A B : Option Addr) (xs ys : List Nat) (c d : Nat) (w : World) (m n s t : Int) (K L : Nat)
theorem IDivMod_n (ha : Lim w A c xs) (hb : Lim w B d ys) (hs : xs.length ≤ K) (ht : ys.length ≤ L) (hm : iv p xs = m) (hn : iv q ys = n) (h0 : n ≠ 0) (hq : m / n = s) (hr : m % n = t) (hK : K < 70368744177664) (hL : L ≤ 70368744177664) :
    Calls Try.prog 82 #[.agg #[.bool p, .slice A xs.length c], .agg #[.bool q, .slice B ys.length d]] w (RetDivI w s t) := by
  subst hm hn hq hr
  have hz : val ys ≠ 0 := fun e => h0 (iv_zero.2 e)
  exact IDivMod_c p q A B xs ys c d w ha hb (by omega) (by omega) hz (fun W hW => DivMod_c A B xs ys c d W (ha.below hW) (hb.below hW) (by omega) hz)
theorem IDivMod0_n (ha : Lim w A c xs) (hb : Lim w B d ys) (hn : iv q ys = n) (h0 : n = 0) :
    Calls Try.prog 82 #[.agg #[.bool p, .slice A xs.length c], .agg #[.bool q, .slice B ys.length d]] w (RetDivI0 w) :=
  IDivMod_zero p q A B xs ys c d w ha hb (iv_zero.1 (hn.trans h0))
theorem rIDivMod_n (ha : Lim w A c xs) (hb : Lim w B d ys) (hs : xs.length ≤ K) (ht : ys.length ≤ L) (hm : iv p xs = m) (hn : iv q ys = n) (h0 : n ≠ 0) (hq : m / n = s) (hr : m % n = t) (hK : K ≤ 70368744177660) (hL : L ≤ 70368744177660) :
    Calls Try.prog 71 #[.agg #[.bool p, .slice A xs.length c], .agg #[.bool q, .slice B ys.length d]] w (RetDivI w s t) := by
  subst hm hn hq hr
  exact rIDivMod_c p q A B xs ys c d w ha hb (by omega) (by omega) (fun e => h0 (iv_zero.2 e))
theorem rIDivMod0_n (hb : Lim w B d ys) (ht : ys.length ≤ L) (hn : iv q ys = n) (h0 : n = 0) (hL : L ≤ 70368744177664) :
    Calls Try.prog 71 #[.agg #[.bool p, .slice A xs.length c], .agg #[.bool q, .slice B ys.length d]] w (RetDivI0 w) :=
  rIDivMod_zero p q A B xs ys c d w hb (by omega) (iv_zero.1 (hn.trans h0))
end

set_option maxHeartbeats 1000000 in
theorem rIGCD_c (p q : Bool) (A B : Option Addr) (xs ys : List Nat) (c d : Nat) (w : World) (ha : Lim w A c xs) (hb : Lim w B d ys) (hs : xs.length ≤ 70368744177660) (ht : ys.length ≤ 70368744177660) :
    Calls Try.prog 85 #[.agg #[.bool p, .slice A xs.length c], .agg #[.bool q, .slice B ys.length d]] w (RetInt w ((Nat.gcd (val xs) (val ys) : Nat) : Int)) := by
  have hg : (limbs (Nat.gcd (val xs) (val ys))).length ≤ 70368744177664 := gcd_sz (k := 70368744177660) (Nat.le_trans (limbs_length_le ha.lb) hs) (Nat.le_trans (limbs_length_le hb.lb) ht) rfl (by omega)
  obtain ⟨G, eG⟩ : ∃ G, Nat.gcd (val xs) (val ys) = G := ⟨_, rfl⟩
  rw [eG] at hg ⊢
  have EG := Lib.hid eG
  clear eG
  go_enter Try.func85, Try.ntmps85
  go_wp2_with fail
  obtain ⟨W, hW, hbW, hsz, k, kr⟩ := three_boxes w p q (.slice A xs.length c) (.slice B ys.length d)
  rw [hW]
  clear hW
  have hz : w.heap.size + 3 ≤ W.heap.size := by omega
  clear hsz k
  refine (rGCD_c A B xs ys c d 70368744177660 W (ha.below hbW) (hb.below hbW) hs ht (Nat.le_refl _)).mono ?_
  rintro e w1 ⟨A1, c1, rfl, r3, bw1⟩
  rw [EG.out] at r3 ⊢
  go_wp2_with fail
  refine (Make_k false A1 G c1 _ r3.lim hg).mono ?_
  rintro e w2 ⟨A2, c2, rfl, r4, bw2⟩
  obtain ⟨m1, m2, m3, m4⟩ := keepR (N := w.heap.size + 1 + 1) bw2 (Nat.lt_of_lt_of_le (show w.heap.size + 1 + 1 < W.heap.size by omega) bw1.size) (keepR bw1 (show w.heap.size + 1 + 1 < W.heap.size by omega) kr)
  have hbw : Below w.heap.size w w2 := (hbW.trans (bw1.mono (show w.heap.size ≤ W.heap.size by omega))).trans (bw2.mono (Nat.le_trans (show w.heap.size ≤ W.heap.size by omega) bw1.size))
  have hlw : w.heap.size + 1 + 1 < w1.heap.size := Nat.lt_of_lt_of_le (show w.heap.size + 1 + 1 < W.heap.size by omega) bw1.size
  have e0 : decide (mkI false G < 0) = false := by simp [mkI]
  rw [e0]
  clear e0
  have hret : RetInt w ((G : Nat) : Int) (.returned (.agg #[.bool false, .slice A2 (limbs G).length c2]))
      ((w2.setCell ⟨w.heap.size + 1 + 1, 0, none⟩ (.bool false)).setCell ⟨w.heap.size + 1 + 1, 1, none⟩ (.slice A2 (limbs G).length c2)) :=
    ⟨A2, c2, by rw [Int.natAbs_natCast, show decide (((G : Nat) : Int) < 0) = false by rw [decide_eq_false_iff_not]; omega], by rw [Int.natAbs_natCast]; exact (r4.put2 hlw _ _).mono (by omega), below_put2 hbw (by omega) _ _⟩
  clear hbw r3 r4 bw1 bw2 hbW kr
  go_wp2
  exact bodyPost_ret (v := .agg #[.bool false, .slice A2 (limbs G).length c2]) (by simp [results, Try.results85, go_sem, m1, m2]) rfl hret
section
variable (p q : Bool) (A B : Option Addr) (xs ys : List Nat) (c d : Nat) (w : World) (m n s : Int) (K L : Nat)
theorem rIGCD_n (ha : Lim w A c xs) (hb : Lim w B d ys) (hs : xs.length ≤ K) (ht : ys.length ≤ L) (hm : iv p xs = m) (hn : iv q ys = n) (h : ((Nat.gcd m.natAbs n.natAbs : Nat) : Int) = s) (hK : K ≤ 70368744177660) (hL : L ≤ 70368744177660) :
    Calls Try.prog 85 #[.agg #[.bool p, .slice A xs.length c], .agg #[.bool q, .slice B ys.length d]] w (RetInt w s) := by
  subst hm hn h
  rw [iv_natAbs, iv_natAbs]
  exact rIGCD_c p q A B xs ys c d w ha hb (by omega) (by omega)
end

/- Variables of struct type in memory: what allocs and stores leave as it was. -/

/-- a store into a cell that holds no limb does not touch limbs -/
theorem Lim.store {w : World} {A : Option Addr} {c : Nat} {xs : List Nat} {p : Addr} {u v : Value} (h : Lim w A c xs) (hp : w.cell? p = some v) (hv : ∀ z, v ≠ .int .u32 z) : Lim (w.setCell p u) A c xs :=
  ⟨h.lb, h.cap, h.max, fun h0 => by
    obtain ⟨b, off, e, hb, hc⟩ := h.cells h0
    refine ⟨b, off, e, by simpa using hb, fun k hk => ?_⟩
    rw [World.cell?_setCell_other]
    · exact hc k hk
    · intro he
      rw [he, hc k hk] at hp
      injection hp with hp
      exact hv _ hp.symm⟩
theorem Own.store {lo : Nat} {w : World} {A : Option Addr} {c : Nat} {xs : List Nat} {p : Addr} {u v : Value} (h : Own lo w A c xs) (hp : w.cell? p = some v) (hv : ∀ z, v ≠ .int .u32 z) : Own lo (w.setCell p u) A c xs :=
  ⟨h.lb, h.cap, h.max, fun h0 => by
    obtain ⟨b, off, e, hlo, hb, hc⟩ := h.cells h0
    refine ⟨b, off, e, hlo, by simpa using hb, fun k hk => ⟨?_, by rw [World.frozen?_setCell]; exact (hc k hk).2⟩⟩
    rw [World.cell?_setCell_other]
    · exact (hc k hk).1
    · intro he
      rw [he, (hc k hk).1] at hp
      injection hp with hp
      exact hv _ hp.symm⟩
theorem IntAt.new (w : World) (b : Bool) (s : Value) : IntAt (w.alloc (.cells #[.bool b, s] 24)) w.heap.size b s := by
  refine ⟨?_, ?_, ?_, ?_⟩ <;> go_simp
theorem IntAt.keep {w w' : World} {N : Nat} {b : Bool} {s : Value} (h : IntAt w N b s) (hb : Below w.heap.size w w') : IntAt w' N b s := h.below hb h.lt
theorem IntAt.alloc {w : World} {N : Nat} {b : Bool} {s : Value} (h : IntAt w N b s) (o : Obj) : IntAt (w.alloc o) N b s := h.keep (bel1 w o)
/-- storing an integer into its variable -/
theorem Lim.put {w : World} {A : Option Addr} {c N : Nat} {xs : List Nat} {b : Bool} {B : Option Addr} {m n : Nat} (h : Lim w A c xs) (hN : IntAt w N b (.slice B m n)) (b' : Bool) (v : Value) : Lim ((w.setCell ⟨N, 0, none⟩ (.bool b')).setCell ⟨N, 1, none⟩ v) A c xs := by
  have h1 : Lim (w.setCell ⟨N, 0, none⟩ (.bool b')) A c xs := h.store hN.c0 (by intro z e; cases e)
  exact h1.store (v := .slice B m n) ((by rw [World.cell?_setCell_other (b := (⟨N, 1, none⟩ : Addr)) (h := by simp)]; exact hN.c1)) (by intro z e; cases e)
theorem Own.put {lo : Nat} {w : World} {A : Option Addr} {c N : Nat} {xs : List Nat} {b : Bool} {B : Option Addr} {m n : Nat} (h : Own lo w A c xs) (hN : IntAt w N b (.slice B m n)) (b' : Bool) (v : Value) : Own lo ((w.setCell ⟨N, 0, none⟩ (.bool b')).setCell ⟨N, 1, none⟩ v) A c xs := by
  have h1 : Own lo (w.setCell ⟨N, 0, none⟩ (.bool b')) A c xs := h.store hN.c0 (by intro z e; cases e)
  exact h1.store (v := .slice B m n) ((by rw [World.cell?_setCell_other (b := (⟨N, 1, none⟩ : Addr)) (h := by simp)]; exact hN.c1)) (by intro z e; cases e)
theorem Below.al1 {W w : World} (h : Below W.heap.size W w) (o : Obj) : Below W.heap.size W (w.alloc o) := h.alloc h.size _
theorem Below.st2 {W w : World} {N : Nat} (h : Below W.heap.size W w) (hN : W.heap.size ≤ N) (u v : Value) : Below W.heap.size W ((w.setCell ⟨N, 0, none⟩ u).setCell ⟨N, 1, none⟩ v) := below_put2 h hN u v

/- Small laws for drawn regions that make and fill two variables of struct type. -/

theorem IntAt.new2 (w : World) (o : Obj) (b : Bool) (s : Value) : IntAt ((w.alloc o).alloc (.cells #[.bool b, s] 24)) (w.heap.size + 1) b s := by
  have h := IntAt.new (w.alloc o) b s
  simpa using h
theorem bel_call {W w w' : World} (h : Below W.heap.size W w) (b : Below w.heap.size w w') : Below W.heap.size W w' := h.trans (b.mono h.size)
theorem Lim.empty (w : World) (A : Option Addr) {c : Nat} (h : c ≤ 9223372036854775807) : Lim w A c [] := ⟨Lb_nil, Nat.zero_le _, h, fun h => absurd h (by simp)⟩
theorem Lim.store_s {w : World} {A : Option Addr} {c : Nat} {xs : List Nat} {p : Addr} {u : Value} (h : Lim w A c xs) (hp : w.cell? p = some (.slice none 0 0)) : Lim (w.setCell p u) A c xs := h.store hp (by intro z e; cases e)
theorem Lim.store_b {w : World} {A : Option Addr} {c : Nat} {xs : List Nat} {p : Addr} {u : Value} (h : Lim w A c xs) (hp : w.cell? p = some (.bool false)) : Lim (w.setCell p u) A c xs := h.store hp (by intro z e; cases e)
theorem Own.store_s {lo : Nat} {w : World} {A : Option Addr} {c : Nat} {xs : List Nat} {p : Addr} {u : Value} (h : Own lo w A c xs) (hp : w.cell? p = some (.slice none 0 0)) : Own lo (w.setCell p u) A c xs := h.store hp (by intro z e; cases e)
theorem Own.store_b {lo : Nat} {w : World} {A : Option Addr} {c : Nat} {xs : List Nat} {p : Addr} {u : Value} (h : Own lo w A c xs) (hp : w.cell? p = some (.bool false)) : Own lo (w.setCell p u) A c xs := h.store hp (by intro z e; cases e)
/-- a division without remainder, or by 0 -/
def RetDR (w : World) (o : Bool) (e : Ending) (w' : World) : Prop := ∃ bq Aq nq cq Ar cr, e = .returned (.tuple #[.agg #[.bool bq, .slice Aq nq cq], .agg #[.bool false, .slice Ar 0 cr], .bool o]) ∧ cr ≤ 9223372036854775807 ∧ Below w.heap.size w w'
theorem IDivMod_rem0 (p q : Bool) (A B : Option Addr) (xs ys : List Nat) (c d : Nat) (w : World) (m n : Int) (o : Bool) (K L : Nat) (ha : Lim w A c xs) (hb : Lim w B d ys) (hs : xs.length ≤ K) (ht : ys.length ≤ L) (hm : iv p xs = m) (hn : iv q ys = n) (hr : n ≠ 0 → m % n = 0) (ho : decide (n ≠ 0) = o) (hK : K < 70368744177664) (hL : L ≤ 70368744177664) :
    Calls Try.prog 82 #[.agg #[.bool p, .slice A xs.length c], .agg #[.bool q, .slice B ys.length d]] w (RetDR w o) := by
  subst ho
  by_cases h0 : n = 0
  · refine (IDivMod0_n p q A B xs ys c d w n ha hb hn h0).mono ?_
    rintro e w' ⟨rfl, b⟩
    exact ⟨false, none, 0, 0, none, 0, by rw [decide_eq_false (by simpa using h0)], by omega, b⟩
  · refine (IDivMod_n p q A B xs ys c d w m n (m / n) 0 K L ha hb hs ht hm hn h0 rfl (hr h0) hK hL).mono ?_
    rintro e w' ⟨A1, c1, A2, c2, rfl, r1, r2, b⟩
    exact ⟨decide (m / n < 0), A1, (limbs (m / n).natAbs).length, c1, A2, c2, by rw [decide_eq_true h0]; simp [limbs_zero], r2.max, b⟩

/- Contracts of the reference of layer 2: Canonical, Bezout. -/

theorem Bz.size {a b g x y : Int} (h : Bz a b g x y) : (x.natAbs ≤ 1 ∨ x.natAbs ≤ b.natAbs) ∧ (y.natAbs ≤ 1 ∨ y.natAbs ≤ a.natAbs) := by
  by_cases hb : b = 0
  · obtain ⟨h1, h2⟩ := h.b0 hb
    subst h1
    exact ⟨.inl h2, .inl (by decide)⟩
  · by_cases ha : a = 0
    · obtain ⟨h1, h2⟩ := h.a0 hb ha
      subst h1
      exact ⟨.inl (by decide), .inl (by omega)⟩
    · obtain ⟨h1, h2⟩ := h.bd ha hb
      have hg : 0 < g.natAbs := by
        rw [← h.gg, Int.natAbs_natCast]
        exact Nat.gcd_pos_of_pos_left _ (by omega)
      exact ⟨.inr (Nat.le_trans (Nat.le_mul_of_pos_right _ hg) h1), .inr (Nat.le_trans (Nat.le_mul_of_pos_right _ hg) h2)⟩
theorem rICompare_k (m n r : Int) (A B : Option Addr) (c d : Nat) (w : World) (K : Nat) (ha : Lim w A c (limbs m.natAbs)) (hb : Lim w B d (limbs n.natAbs)) (hs : (limbs m.natAbs).length ≤ K) (ht : (limbs n.natAbs).length ≤ K) (hK : K < 70368744177664) (hr : cmpI m n = r) :
    Calls Try.prog 12 #[.agg #[.bool (decide (m < 0)), .slice A (limbs m.natAbs).length c], .agg #[.bool (decide (n < 0)), .slice B (limbs n.natAbs).length d]] w (RetI w r) := by
  have k := rICompare_c (decide (m < 0)) (decide (n < 0)) A B (limbs m.natAbs) (limbs n.natAbs) c d w K ha hb hs ht hK
  rw [iv_canon, iv_canon, hr] at k; exact k
theorem rSign_e (p : Bool) (A : Option Addr) (xs : List Nat) (c : Nat) (w : World) (n r : Int) (h : Lim w A c xs) (hs : xs.length ≤ 70368744177664) (hn : iv p xs = n) (hr : sgn n = r) :
    Calls Try.prog 51 #[.agg #[.bool p, .slice A xs.length c]] w (RetI w r) := by
  subst hn hr; exact rSign_c p A xs c w h hs
theorem rSign_f (n r : Int) (A : Option Addr) (c : Nat) (w : World) (h : Lim w A c (limbs n.natAbs)) (hs : (limbs n.natAbs).length ≤ 70368744177664) (hr : sgn n = r) :
    Calls Try.prog 51 #[.agg #[.bool (decide (n < 0)), .slice A (limbs n.natAbs).length c]] w (RetI w r) := by
  subst hr; exact rSign_k n A c w h hs
theorem boxes5p (w : World) (p0 p1 p2 p3 p4 : Bool) (u0 u1 u2 u3 u4 : Value) :
    ∃ W, ((((w.alloc (.cells #[.bool p0, u0] 24)).alloc (.cells #[.bool p1, u1] 24)).alloc (.cells #[.bool p2, u2] 24)).alloc (.cells #[.bool p3, u3] 24)).alloc (.cells #[.bool p4, u4] 24) = W ∧ Below w.heap.size w W ∧ W.heap.size = w.heap.size + 5 ∧
      W.cell? ⟨w.heap.size, 0, none⟩ = some (.bool p0) ∧ W.cell? ⟨w.heap.size, 1, none⟩ = some u0 ∧ W.cell? ⟨w.heap.size + 1, 0, none⟩ = some (.bool p1) ∧ W.cell? ⟨w.heap.size + 1, 1, none⟩ = some u1 ∧
      W.cell? ⟨w.heap.size + 1 + 1, 0, none⟩ = some (.bool p2) ∧ W.cell? ⟨w.heap.size + 1 + 1, 1, none⟩ = some u2 ∧ W.cell? ⟨w.heap.size + 1 + 1 + 1, 0, none⟩ = some (.bool p3) ∧ W.cell? ⟨w.heap.size + 1 + 1 + 1, 1, none⟩ = some u3 ∧
      W.cell? ⟨w.heap.size + 1 + 1 + 1 + 1, 0, none⟩ = some (.bool p4) ∧ W.cell? ⟨w.heap.size + 1 + 1 + 1 + 1, 1, none⟩ = some u4 := by
  refine ⟨_, rfl, (((((Below.refl _ _).alloc (Nat.le_refl _) _).alloc (by simp) _).alloc (by simp; omega) _).alloc (by simp; omega) _).alloc (by simp; omega) _, by simp, ?_⟩
  refine ⟨?_, ?_, ?_, ?_, ?_, ?_, ?_, ?_, ?_, ?_⟩ <;> go_simp


end Go.Proofs.Ytaeidephegnkdaa
