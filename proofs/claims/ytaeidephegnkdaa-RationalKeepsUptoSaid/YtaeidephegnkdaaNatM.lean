/- Contracts of package natural: the greatest common divisor in full. -/
import Derived.Test.YtaeidephegnkdaaNatL
import Derived.Deep.LoopGhost
namespace Go.Proofs.Ytaeidephegnkdaa
open Go.RowKit Gm

set_option maxHeartbeats 1000000 in
theorem combine_c (A B : Option Addr) (xs ys : List Nat) (c d : Nat) (x y n : Nat) (w : World) (ha : Lim w A c xs) (hb : Lim w B d ys) (hs : xs.length ≤ 70368744177660) (ht : ys.length ≤ 70368744177660) (hx : x < Ba * Ba) (hy : y < Ba * Ba) (hle : val ys * y ≤ val xs * x) (hn : val xs * x - val ys * y = n) :
    Calls Try.prog 111 #[.slice A xs.length c, .int .u64 (x : Int), .slice B ys.length d, .int .u64 (y : Int)] w (RetNat w n) := by
  have lx := limbs_len2 hx
  have ly := limbs_len2 hy
  have lp : (limbs (val xs * x)).length ≤ 70368744177664 := by
    have h1 := limbs_mul_le (val xs) x
    have h2 := limbs_length_le ha.lb
    omega
  have HN := Lib.hid hn
  have HLE := Lib.hid hle
  clear hn hle
  go_enter Try.func111, Try.ntmps111
  go_wp2_with fail
  refine (FromUint64_c x w hx).mono ?_
  rintro e w1 ⟨A1, c1, rfl, r1, b1⟩
  go_wp2_with fail
  refine (Mul_c A A1 xs (limbs x) c c1 w1 (ha.below b1) r1.lim (by omega)).mono ?_
  rintro e w2 ⟨A2, c2, rfl, r2, b2⟩
  rw [val_limbs] at r2 ⊢
  have b02 : Below w.heap.size w w2 := b1.trans (b2.mono b1.size)
  go_wp2_with fail
  refine (FromUint64_c y w2 hy).mono ?_
  rintro e w3 ⟨A3, c3, rfl, r3, b3⟩
  have b03 : Below w.heap.size w w3 := b02.trans (b3.mono b02.size)
  go_wp2_with fail
  refine (Mul_c B A3 ys (limbs y) d c3 w3 (hb.below b03) r3.lim (by omega)).mono ?_
  rintro e w4 ⟨A4, c4, rfl, r4, b4⟩
  rw [val_limbs] at r4 ⊢
  have b04 : Below w.heap.size w w4 := b03.trans (b4.mono b03.size)
  go_wp2_with fail
  refine (SubY_n A2 A4 (limbs (val xs * x)) (limbs (val ys * y)) c2 c4 w4 (val xs * x) (val ys * y) n 70368744177664 ((r2.lim.below b3).below b4) r4.lim lp (val_limbs _) (val_limbs _) HLE.out HN.out (Nat.le_refl _)).mono ?_
  rintro e w5 ⟨A5, c5, rfl, r5, b5⟩
  have h5 := r5.mono (lo' := w.heap.size) b04.size
  have b05 : Below w.heap.size w w5 := b04.trans (b5.mono b04.size)
  clear r1 r2 r3 r4 r5 b1 b2 b3 b4 b5
  go_wp2
  go_ret
  exact ⟨A5, c5, rfl, h5, b05⟩

/-- what the loop of the greatest common divisor keeps -/
def GR (K G : Nat) (w : World) (k : Nat) (a b : Value) (wr : World) : Prop :=
  ∃ (A B : Option Addr) (c d x y : Nat), k = x + y ∧ a = .slice A (limbs x).length c ∧ b = .slice B (limbs y).length d ∧ Lim wr A c (limbs x) ∧ Lim wr B d (limbs y) ∧ y ≤ x ∧ (limbs x).length ≤ K ∧ Hid (Nat.gcd x y = G) ∧ Below w.heap.size w wr

/-- the cofactors, boxed -/
theorem cof_box (w : World) (u0 u1 v0 v1 : Nat) (b : Bool) : ∃ W, w.alloc (.cells #[.int .u64 (u0 : Int), .int .u64 (u1 : Int), .int .u64 (v0 : Int), .int .u64 (v1 : Int), .bool b] 100) = W ∧ Below w.heap.size w W ∧
    W.cell? ⟨w.heap.size, 0, none⟩ = some (.int .u64 (u0 : Int)) ∧ W.cell? ⟨w.heap.size, 1, none⟩ = some (.int .u64 (u1 : Int)) ∧ W.cell? ⟨w.heap.size, 2, none⟩ = some (.int .u64 (v0 : Int)) ∧ W.cell? ⟨w.heap.size, 3, none⟩ = some (.int .u64 (v1 : Int)) := by
  refine ⟨_, rfl, bel1 _ _, ?_, ?_, ?_, ?_⟩ <;> go_simp
theorem gcd_mod {x y : Nat} : Nat.gcd y (x % y) = Nat.gcd x y := by rw [Nat.gcd_comm x y, Nat.gcd_rec y x, Nat.gcd_comm]

set_option maxHeartbeats 4000000 in
set_option maxRecDepth 100000 in
theorem GCD_ge (A B : Option Addr) (xs ys : List Nat) (c d K : Nat) (w : World) (ha : Lim w A c xs) (hb : Lim w B d ys) (hK : (limbs (val xs)).length ≤ K) (hs : K ≤ 70368744177660) (hge : val ys ≤ val xs) :
    Calls Try.prog 94 #[.slice A xs.length c, .slice B ys.length d] w (RetNat w (Nat.gcd (val xs) (val ys))) := by
  have ec : 0 ≤ cmpN (val (limbs (val xs))) (val (limbs (val ys))) := by
    rw [val_limbs, val_limbs]; exact cmpN_nonneg hge
  obtain ⟨G, eG⟩ : ∃ G, Nat.gcd (val xs) (val ys) = G := ⟨_, rfl⟩
  rw [eG]
  have EG := Lib.hid eG
  clear eG
  go_enter Try.func94, Try.ntmps94
  go_wp2_with fail
  refine (cut_c _ _ _ _ ha).mono ?_
  rintro e w' ⟨rfl, rfl⟩
  go_wp2_with fail
  refine (cut_c _ _ _ _ hb).mono ?_
  rintro e w' ⟨rfl, rfl⟩
  go_wp2_with fail
  refine (Compare_c _ _ _ _ _ _ _ ha.cut hb.cut).mono ?_
  rintro e w' ⟨rfl, n, rfl⟩
  generalize cmpN (val (limbs (val xs))) (val (limbs (val ys))) = z at *
  have ec' : ¬ z < 0 := by omega
  have hst : GR K G w (val xs + val ys) (.slice A (limbs (val xs)).length c) (.slice B (limbs (val ys)).length d) (w.drewN n) := ⟨A, B, c, d, val xs, val ys, rfl, rfl, rfl, ha.cut.drewN n, hb.cut.drewN n, hge, hK, EG, below_drewN (Below.refl _ _) n⟩
  clear ha hb ec
  go_wp2_with fail
  go_loopg [0, 1] (val xs + val ys) (fun k a b wr => GR K G w k a b wr)
  case atStart => exact hst
  case round =>
    clear hst
    obtain ⟨A, B, c, d, x, y, rfl, rfl, rfl, hx, hy, hyx, hxK, hG, hbel⟩ := hrel
    have lyx := limbs_mono hyx
    rcases Nat.eq_zero_or_pos y with rfl | hy0
    · have HE := Lib.hid (show x = G by rw [← hG.out, Nat.gcd_zero_right])
      rw [limbs_zero]
      go_wp2_with fail
      refine (Trim_c A (limbs x) c _ hx (by omega)).mono ?_
      rintro e w1 ⟨A1, c1, rfl, r1, b1⟩
      rw [val_limbs] at r1 ⊢
      have h1 := r1.mono (lo' := w.heap.size) hbel.size
      have b01 := hbel.trans (b1.mono hbel.size)
      clear r1 b1
      go_wp2
      go_ret
      rw [← HE.out]
      exact ⟨A1, c1, rfl, h1, b01⟩
    · have lp : 0 < (limbs y).length := List.length_pos_iff.2 (fun e => by rw [limbs_eq_nil] at e; omega)
      rcases Nat.lt_or_ge x (Ba * Ba) with hsm | hbig
      · have l2 := limbs_len2 hsm
        have l2' : ((limbs x).length : Int) ≤ 2 := by omega
        go_wp2_with fail
        refine (word_c A (limbs x) c _ hx l2).mono ?_
        rintro e w' ⟨rfl, rfl⟩
        go_wp2_with fail
        refine (word_c B (limbs y) d _ hy (by omega)).mono ?_
        rintro e w' ⟨rfl, rfl⟩
        rw [val_limbs, val_limbs]
        have hBB : Ba * Ba = 18446744073709551616 := by decide
        rw [hBB] at hsm
        clear hBB
        obtain ⟨wo, rfl⟩ : ∃ wo : World, wo = wr := ⟨_, rfl⟩
        go_wp2_with fail
        go_loopw [5, 6] (fun s t wi => ∃ (x' y' k : Nat), s = .int .u64 x' ∧ t = .int .u64 y' ∧ x' ≤ 18446744073709551615 ∧ y' ≤ 18446744073709551615 ∧ Hid (Nat.gcd x' y' = G) ∧ wi = wo.drewN k) (fun _ t _ => (intOf t).toNat)
        case atStart => exact ⟨x, y, 0, rfl, rfl, by omega, by omega, hG, rfl⟩
        case round =>
          obtain ⟨x', y', k, rfl, rfl, hx', hy', hg', rfl⟩ := hrel
          rcases Nat.eq_zero_or_pos y' with rfl | hp
          · have HG2 := Lib.hid (show x' = G by rw [← hg'.out, Nat.gcd_zero_right])
            go_wp2_with fail
            refine (FromUint64_c x' _ (by have hB : Ba * Ba = 18446744073709551616 := by decide
                                          omega)).mono ?_
            rintro e w1 ⟨A1, c1, rfl, r1, b1⟩
            have hbk := below_drewN hbel k
            have h1 := r1.mono (lo' := w.heap.size) hbk.size
            have b01 := hbk.trans (b1.mono hbk.size)
            clear r1 b1 hbk
            go_wp2
            go_ret
            rw [← HG2.out]
            exact ⟨A1, c1, rfl, h1, b01⟩
          · have hne : ((y' : Int) != 0) = true := by rw [bne_iff_ne]; omega
            have hne2 : ((y' : Int) == 0) = false := by rw [beq_eq_false_iff_ne]; omega
            have e3 : (x' : Int).tmod (y' : Int) = ((x' % y' : Nat) : Int) := by rw [Int.tmod_eq_emod_of_nonneg (by omega)]; rfl
            have hm := Nat.mod_lt x' hp
            have hgm : Hid (Nat.gcd y' (x' % y') = G) := Lib.hid (by rw [gcd_mod]; exact hg'.out)
            obtain ⟨T, eT⟩ : ∃ T, x' % y' = T := ⟨_, rfl⟩
            rw [eT] at e3 hm hgm
            clear eT
            go_wp2
            go_quiet (fail)
            go_wp2
            go_roundw
            case rel => exact ⟨y', T, _, rfl, rfl, hy', by omega, hgm, World.drewN_drewN _ _ _⟩
            case measure => simp [intOf]; try omega
      · have l3 : 3 ≤ (limbs x).length := by
          have : ¬ (limbs x).length ≤ 2 := fun h => by have := limbs_two.1 h; omega
          omega
        obtain ⟨m, em⟩ : ∃ m, (limbs x).length = m + 3 := ⟨(limbs x).length - 3, by omega⟩
        have htop := limbs_last (show x ≠ 0 by omega)
        rw [em, show m + 3 - 1 = m + 2 from rfl] at htop
        obtain ⟨s, es⟩ : ∃ s, 32 - nb ((limbs x)[m + 2]?.getD 0) = s := ⟨_, rfl⟩
        obtain ⟨D, eD⟩ : ∃ D, Ba ^ m * 2 ^ (32 - s) = D := ⟨_, rfl⟩
        have hDp : 0 < D := by rw [← eD]; exact Nat.mul_pos (Nat.pow_pos Ba_pos) (Nat.pow_pos (by decide))
        have hc := leading_c A B (limbs x) (limbs y) c d m s D wr hx hy em (by omega) htop (by rw [val_limbs, val_limbs]; exact hyx) (by omega) es eD
        rw [val_limbs, val_limbs] at hc
        have HC := Lib.hid hc
        have EM := Lib.hid em
        have hm : m + 3 ≤ K := by omega
        have l3' : ¬ ((m : Int) + 3 ≤ 2) := by omega
        rw [em] at lyx ⊢
        clear htop es eD hc em l3 hxK
        go_wp2_with fail
        refine HC.out.mono ?_
        rintro e w1 ⟨xx, yy, u0, u1, u2, v0, v1, v2, ev, hLI, q0, q1, q2, q3, rfl, b1⟩
        have HLI := Lib.hid hLI
        clear hLI HC
        by_cases hv0 : v0 = 0
        · subst hv0
          go_wp2_with fail
          rw [← EM.out]
          have b0 := bel1 w1 (.cells #[.int .u64 (u0 : Int), .int .u64 (u1 : Int), .int .u64 0, .int .u64 (v1 : Int), .bool ev] 100)
          refine (DivMod_c A B (limbs x) (limbs y) c d _ ((hx.below b1).below b0) ((hy.below b1).below b0) (by rw [EM.out]; omega) (by rw [val_limbs]; omega)).mono ?_
          rintro e w2 ⟨A1, c1, A2, c2, rfl, r1, r2, b2⟩
          rw [val_limbs, val_limbs] at r1 r2 ⊢
          have b13 : Below wr.heap.size wr w2 := (b1.trans (b0.mono b1.size)).trans (b2.mono (Nat.le_trans b1.size b0.size))
          have hy2 := hy.below b13
          have h2 := r2.lim
          have hend := hbel.trans (b13.mono hbel.size)
          have hmod := Nat.mod_lt x hy0
          have lyK : (limbs y).length ≤ K := by omega
          clear r1 r2 b0 b1 b2 b13
          go_wp2_with fail
          go_roundg (y + x % y)
          case measure => exact Nat.lt_of_lt_of_le (Nat.add_lt_add_left hmod y) (Nat.add_le_add_right hyx y)
          case rel => exact ⟨B, A2, d, c2, y, x % y, rfl, rfl, rfl, hy2, h2, Nat.le_of_lt hmod, lyK, Lib.hid (by rw [gcd_mod]; exact hG.out), hend⟩
        · have hne : ((v0 : Int) == 0) = false := by rw [beq_eq_false_iff_ne]; omega
          cases ev
          · obtain ⟨a', ea'⟩ : ∃ a', y * v0 - x * u0 = a' := ⟨_, rfl⟩
            obtain ⟨b', eb'⟩ : ∃ b', x * u1 - y * v1 = b' := ⟨_, rfl⟩
            have hfin := HLI.out.finish (a := a') (b := b') hDp hv0 (by simp only [Bool.false_eq_true, if_false]; exact ea'.symm) (by simp only [Bool.false_eq_true, if_false]; exact eb'.symm)
            simp only [Bool.false_eq_true, if_false] at hfin
            obtain ⟨f1, f2, f3, f4, f5⟩ := hfin
            have la' : (limbs a').length ≤ K := Nat.le_trans (limbs_mono (show a' ≤ x by omega)) (by rw [EM.out]; exact hm)
            have Ea' := Lib.hid ea'
            have Eb' := Lib.hid eb'
            have F1 := Lib.hid f1
            have F2 := Lib.hid f2
            have F5 := Lib.hid f5
            clear ea' eb' f1 f2 f5
            have tk0 : True := trivial
            have tk1 : True := trivial
            have hzK : (limbs x).length ≤ 70368744177660 := by rw [EM.out]; omega
            have hyK : (limbs y).length ≤ 70368744177660 := by omega
            go_wp2_with fail
            rw [← EM.out]
            obtain ⟨W, hW, hbW, s0, s1, s2, s3⟩ := cof_box w1 u0 u1 v0 v1 false
            rw [hW]
            clear hW
            have jW : w1.heap.size < W.heap.size := by have := s0; exact World.block_lt_of_cell? W _ this
            replace hx := (hx.below b1).below hbW
            replace hy := (hy.below b1).below hbW
            have hbelW : Below w.heap.size w W := (hbel.trans (b1.mono hbel.size)).trans (hbW.mono (Nat.le_trans hbel.size b1.size))
            have hBel : Below W.heap.size W W.drew := (Below.refl _ _).drew
            clear hbel b1 hbW
            go_region_held3 (fun w' => w'.cell? ⟨w1.heap.size, 0, none⟩ = some (.int .u64 (u0 : Int)) ∧ w'.cell? ⟨w1.heap.size, 1, none⟩ = some (.int .u64 (u1 : Int)) ∧ w'.cell? ⟨w1.heap.size, 2, none⟩ = some (.int .u64 (v0 : Int)) ∧ w'.cell? ⟨w1.heap.size, 3, none⟩ = some (.int .u64 (v1 : Int)))
              (first | exact ⟨cellB hBel jW s0, cellB hBel jW s1, cellB hBel jW s2, cellB hBel jW s3⟩ | go_keep)
              (first
                | (go_at_call 111; have _t := tk0; clear tk0; refine (combine_c B A (limbs y) (limbs x) d c v0 u0 a' _ ?_ ?_ ?_ ?_ q2 q0 ?_ ?_).mono ?_; exact hy.below hBel; exact hx.below hBel; omega; omega; (rw [val_limbs, val_limbs]; exact F1.out); (rw [val_limbs, val_limbs]; exact Ea'.out); rintro e w6 ⟨A6, c6, rfl, r6, b6⟩; replace hBel := hBel.trans (b6.mono hBel.size))
                | (go_at_call 111; have _t := tk1; clear tk1; refine (combine_c A B (limbs x) (limbs y) c d u1 v1 b' _ ?_ ?_ ?_ ?_ q1 q3 ?_ ?_).mono ?_; exact hx.below hBel; exact hy.below hBel; omega; omega; (rw [val_limbs, val_limbs]; exact F2.out); (rw [val_limbs, val_limbs]; exact Eb'.out); rintro e w7 ⟨A7, c7, rfl, r7, b7⟩; replace hBel := hBel.trans (b7.mono hBel.size)))
            rename_i hHeld
            clear hHeld
            have h6 := r6.lim.below b7
            have h7 := r7.lim
            have hend : Below w.heap.size w w7 := hbelW.trans (hBel.mono hbelW.size)
            clear r6 r7 b6 b7 hBel
            go_wp2_with fail
            go_roundg (a' + b')
            case measure => omega
            case rel => exact ⟨A6, A7, c6, c7, a', b', rfl, rfl, rfl, h6, h7, f3, la', Lib.hid (by rw [F5.out]; exact hG.out), hend⟩
          · obtain ⟨a', ea'⟩ : ∃ a', x * u0 - y * v0 = a' := ⟨_, rfl⟩
            obtain ⟨b', eb'⟩ : ∃ b', y * v1 - x * u1 = b' := ⟨_, rfl⟩
            have hfin := HLI.out.finish (a := a') (b := b') hDp hv0 (by simp only [if_true]; exact ea'.symm) (by simp only [if_true]; exact eb'.symm)
            simp only [if_true] at hfin
            obtain ⟨f1, f2, f3, f4, f5⟩ := hfin
            have la' : (limbs a').length ≤ K := Nat.le_trans (limbs_mono (show a' ≤ x by omega)) (by rw [EM.out]; exact hm)
            have Ea' := Lib.hid ea'
            have Eb' := Lib.hid eb'
            have F1 := Lib.hid f1
            have F2 := Lib.hid f2
            have F5 := Lib.hid f5
            clear ea' eb' f1 f2 f5
            have tk0 : True := trivial
            have tk1 : True := trivial
            have hzK : (limbs x).length ≤ 70368744177660 := by rw [EM.out]; omega
            have hyK : (limbs y).length ≤ 70368744177660 := by omega
            go_wp2_with fail
            rw [← EM.out]
            obtain ⟨W, hW, hbW, s0, s1, s2, s3⟩ := cof_box w1 u0 u1 v0 v1 true
            rw [hW]
            clear hW
            have jW : w1.heap.size < W.heap.size := by have := s0; exact World.block_lt_of_cell? W _ this
            replace hx := (hx.below b1).below hbW
            replace hy := (hy.below b1).below hbW
            have hbelW : Below w.heap.size w W := (hbel.trans (b1.mono hbel.size)).trans (hbW.mono (Nat.le_trans hbel.size b1.size))
            have hBel : Below W.heap.size W W.drew := (Below.refl _ _).drew
            clear hbel b1 hbW
            go_region_held3 (fun w' => w'.cell? ⟨w1.heap.size, 0, none⟩ = some (.int .u64 (u0 : Int)) ∧ w'.cell? ⟨w1.heap.size, 1, none⟩ = some (.int .u64 (u1 : Int)) ∧ w'.cell? ⟨w1.heap.size, 2, none⟩ = some (.int .u64 (v0 : Int)) ∧ w'.cell? ⟨w1.heap.size, 3, none⟩ = some (.int .u64 (v1 : Int)))
              (first | exact ⟨cellB hBel jW s0, cellB hBel jW s1, cellB hBel jW s2, cellB hBel jW s3⟩ | go_keep)
              (first
                | (go_at_call 111; have _t := tk0; clear tk0; refine (combine_c A B (limbs x) (limbs y) c d u0 v0 a' _ ?_ ?_ ?_ ?_ q0 q2 ?_ ?_).mono ?_; exact hx.below hBel; exact hy.below hBel; omega; omega; (rw [val_limbs, val_limbs]; exact F1.out); (rw [val_limbs, val_limbs]; exact Ea'.out); rintro e w6 ⟨A6, c6, rfl, r6, b6⟩; replace hBel := hBel.trans (b6.mono hBel.size))
                | (go_at_call 111; have _t := tk1; clear tk1; refine (combine_c B A (limbs y) (limbs x) d c v1 u1 b' _ ?_ ?_ ?_ ?_ q3 q1 ?_ ?_).mono ?_; exact hy.below hBel; exact hx.below hBel; omega; omega; (rw [val_limbs, val_limbs]; exact F2.out); (rw [val_limbs, val_limbs]; exact Eb'.out); rintro e w7 ⟨A7, c7, rfl, r7, b7⟩; replace hBel := hBel.trans (b7.mono hBel.size)))
            rename_i hHeld
            clear hHeld
            have h6 := r6.lim.below b7
            have h7 := r7.lim
            have hend : Below w.heap.size w w7 := hbelW.trans (hBel.mono hbelW.size)
            clear r6 r7 b6 b7 hBel
            go_wp2_with fail
            go_roundg (a' + b')
            case measure => omega
            case rel => exact ⟨A6, A7, c6, c7, a', b', rfl, rfl, rfl, h6, h7, f3, la', Lib.hid (by rw [F5.out]; exact hG.out), hend⟩

set_option maxHeartbeats 4000000 in
set_option maxRecDepth 100000 in
theorem GCD_lt (A B : Option Addr) (xs ys : List Nat) (c d K : Nat) (w : World) (ha : Lim w A c xs) (hb : Lim w B d ys) (hK : (limbs (val ys)).length ≤ K) (hs : K ≤ 70368744177660) (hge : val xs < val ys) :
    Calls Try.prog 94 #[.slice A xs.length c, .slice B ys.length d] w (RetNat w (Nat.gcd (val xs) (val ys))) := by
  have EC := Lib.hid (show cmpN (val (limbs (val xs))) (val (limbs (val ys))) = -1 by rw [val_limbs, val_limbs]; exact cmpN_lt hge)
  obtain ⟨G, eG⟩ : ∃ G, Nat.gcd (val xs) (val ys) = G := ⟨_, rfl⟩
  rw [eG]
  have EG := Lib.hid eG
  clear eG
  go_enter Try.func94, Try.ntmps94
  go_wp2_with fail
  refine (cut_c _ _ _ _ ha).mono ?_
  rintro e w' ⟨rfl, rfl⟩
  go_wp2_with fail
  refine (cut_c _ _ _ _ hb).mono ?_
  rintro e w' ⟨rfl, rfl⟩
  go_wp2_with fail
  refine (Compare_c _ _ _ _ _ _ _ ha.cut hb.cut).mono ?_
  rintro e w' ⟨rfl, n, rfl⟩
  rw [EC.out]
  have hst : GR K G w (val ys + val xs) (.slice B (limbs (val ys)).length d) (.slice A (limbs (val xs)).length c) (w.drewN n) := ⟨B, A, d, c, val ys, val xs, rfl, rfl, rfl, hb.cut.drewN n, ha.cut.drewN n, Nat.le_of_lt hge, hK, Lib.hid (by rw [Nat.gcd_comm]; exact EG.out), below_drewN (Below.refl _ _) n⟩
  clear ha hb EC
  go_wp2_with fail
  go_loopg [0, 1] (val ys + val xs) (fun k a b wr => GR K G w k a b wr)
  case atStart => exact hst
  case round =>
    clear hst
    obtain ⟨A, B, c, d, x, y, rfl, rfl, rfl, hx, hy, hyx, hxK, hG, hbel⟩ := hrel
    have lyx := limbs_mono hyx
    rcases Nat.eq_zero_or_pos y with rfl | hy0
    · have HE := Lib.hid (show x = G by rw [← hG.out, Nat.gcd_zero_right])
      rw [limbs_zero]
      go_wp2_with fail
      refine (Trim_c A (limbs x) c _ hx (by omega)).mono ?_
      rintro e w1 ⟨A1, c1, rfl, r1, b1⟩
      rw [val_limbs] at r1 ⊢
      have h1 := r1.mono (lo' := w.heap.size) hbel.size
      have b01 := hbel.trans (b1.mono hbel.size)
      clear r1 b1
      go_wp2
      go_ret
      rw [← HE.out]
      exact ⟨A1, c1, rfl, h1, b01⟩
    · have lp : 0 < (limbs y).length := List.length_pos_iff.2 (fun e => by rw [limbs_eq_nil] at e; omega)
      rcases Nat.lt_or_ge x (Ba * Ba) with hsm | hbig
      · have l2 := limbs_len2 hsm
        have l2' : ((limbs x).length : Int) ≤ 2 := by omega
        go_wp2_with fail
        refine (word_c A (limbs x) c _ hx l2).mono ?_
        rintro e w' ⟨rfl, rfl⟩
        go_wp2_with fail
        refine (word_c B (limbs y) d _ hy (by omega)).mono ?_
        rintro e w' ⟨rfl, rfl⟩
        rw [val_limbs, val_limbs]
        have hBB : Ba * Ba = 18446744073709551616 := by decide
        rw [hBB] at hsm
        clear hBB
        obtain ⟨wo, rfl⟩ : ∃ wo : World, wo = wr := ⟨_, rfl⟩
        go_wp2_with fail
        go_loopw [5, 6] (fun s t wi => ∃ (x' y' k : Nat), s = .int .u64 x' ∧ t = .int .u64 y' ∧ x' ≤ 18446744073709551615 ∧ y' ≤ 18446744073709551615 ∧ Hid (Nat.gcd x' y' = G) ∧ wi = wo.drewN k) (fun _ t _ => (intOf t).toNat)
        case atStart => exact ⟨x, y, 0, rfl, rfl, by omega, by omega, hG, rfl⟩
        case round =>
          obtain ⟨x', y', k, rfl, rfl, hx', hy', hg', rfl⟩ := hrel
          rcases Nat.eq_zero_or_pos y' with rfl | hp
          · have HG2 := Lib.hid (show x' = G by rw [← hg'.out, Nat.gcd_zero_right])
            go_wp2_with fail
            refine (FromUint64_c x' _ (by have hB : Ba * Ba = 18446744073709551616 := by decide
                                          omega)).mono ?_
            rintro e w1 ⟨A1, c1, rfl, r1, b1⟩
            have hbk := below_drewN hbel k
            have h1 := r1.mono (lo' := w.heap.size) hbk.size
            have b01 := hbk.trans (b1.mono hbk.size)
            clear r1 b1 hbk
            go_wp2
            go_ret
            rw [← HG2.out]
            exact ⟨A1, c1, rfl, h1, b01⟩
          · have hne : ((y' : Int) != 0) = true := by rw [bne_iff_ne]; omega
            have hne2 : ((y' : Int) == 0) = false := by rw [beq_eq_false_iff_ne]; omega
            have e3 : (x' : Int).tmod (y' : Int) = ((x' % y' : Nat) : Int) := by rw [Int.tmod_eq_emod_of_nonneg (by omega)]; rfl
            have hm := Nat.mod_lt x' hp
            have hgm : Hid (Nat.gcd y' (x' % y') = G) := Lib.hid (by rw [gcd_mod]; exact hg'.out)
            obtain ⟨T, eT⟩ : ∃ T, x' % y' = T := ⟨_, rfl⟩
            rw [eT] at e3 hm hgm
            clear eT
            go_wp2
            go_quiet (fail)
            go_wp2
            go_roundw
            case rel => exact ⟨y', T, _, rfl, rfl, hy', by omega, hgm, World.drewN_drewN _ _ _⟩
            case measure => simp [intOf]; try omega
      · have l3 : 3 ≤ (limbs x).length := by
          have : ¬ (limbs x).length ≤ 2 := fun h => by have := limbs_two.1 h; omega
          omega
        obtain ⟨m, em⟩ : ∃ m, (limbs x).length = m + 3 := ⟨(limbs x).length - 3, by omega⟩
        have htop := limbs_last (show x ≠ 0 by omega)
        rw [em, show m + 3 - 1 = m + 2 from rfl] at htop
        obtain ⟨s, es⟩ : ∃ s, 32 - nb ((limbs x)[m + 2]?.getD 0) = s := ⟨_, rfl⟩
        obtain ⟨D, eD⟩ : ∃ D, Ba ^ m * 2 ^ (32 - s) = D := ⟨_, rfl⟩
        have hDp : 0 < D := by rw [← eD]; exact Nat.mul_pos (Nat.pow_pos Ba_pos) (Nat.pow_pos (by decide))
        have hc := leading_c A B (limbs x) (limbs y) c d m s D wr hx hy em (by omega) htop (by rw [val_limbs, val_limbs]; exact hyx) (by omega) es eD
        rw [val_limbs, val_limbs] at hc
        have HC := Lib.hid hc
        have EM := Lib.hid em
        have hm : m + 3 ≤ K := by omega
        have l3' : ¬ ((m : Int) + 3 ≤ 2) := by omega
        rw [em] at lyx ⊢
        clear htop es eD hc em l3 hxK
        go_wp2_with fail
        refine HC.out.mono ?_
        rintro e w1 ⟨xx, yy, u0, u1, u2, v0, v1, v2, ev, hLI, q0, q1, q2, q3, rfl, b1⟩
        have HLI := Lib.hid hLI
        clear hLI HC
        by_cases hv0 : v0 = 0
        · subst hv0
          go_wp2_with fail
          rw [← EM.out]
          have b0 := bel1 w1 (.cells #[.int .u64 (u0 : Int), .int .u64 (u1 : Int), .int .u64 0, .int .u64 (v1 : Int), .bool ev] 100)
          refine (DivMod_c A B (limbs x) (limbs y) c d _ ((hx.below b1).below b0) ((hy.below b1).below b0) (by rw [EM.out]; omega) (by rw [val_limbs]; omega)).mono ?_
          rintro e w2 ⟨A1, c1, A2, c2, rfl, r1, r2, b2⟩
          rw [val_limbs, val_limbs] at r1 r2 ⊢
          have b13 : Below wr.heap.size wr w2 := (b1.trans (b0.mono b1.size)).trans (b2.mono (Nat.le_trans b1.size b0.size))
          have hy2 := hy.below b13
          have h2 := r2.lim
          have hend := hbel.trans (b13.mono hbel.size)
          have hmod := Nat.mod_lt x hy0
          have lyK : (limbs y).length ≤ K := by omega
          clear r1 r2 b0 b1 b2 b13
          go_wp2_with fail
          go_roundg (y + x % y)
          case measure => exact Nat.lt_of_lt_of_le (Nat.add_lt_add_left hmod y) (Nat.add_le_add_right hyx y)
          case rel => exact ⟨B, A2, d, c2, y, x % y, rfl, rfl, rfl, hy2, h2, Nat.le_of_lt hmod, lyK, Lib.hid (by rw [gcd_mod]; exact hG.out), hend⟩
        · have hne : ((v0 : Int) == 0) = false := by rw [beq_eq_false_iff_ne]; omega
          cases ev
          · obtain ⟨a', ea'⟩ : ∃ a', y * v0 - x * u0 = a' := ⟨_, rfl⟩
            obtain ⟨b', eb'⟩ : ∃ b', x * u1 - y * v1 = b' := ⟨_, rfl⟩
            have hfin := HLI.out.finish (a := a') (b := b') hDp hv0 (by simp only [Bool.false_eq_true, if_false]; exact ea'.symm) (by simp only [Bool.false_eq_true, if_false]; exact eb'.symm)
            simp only [Bool.false_eq_true, if_false] at hfin
            obtain ⟨f1, f2, f3, f4, f5⟩ := hfin
            have la' : (limbs a').length ≤ K := Nat.le_trans (limbs_mono (show a' ≤ x by omega)) (by rw [EM.out]; exact hm)
            have Ea' := Lib.hid ea'
            have Eb' := Lib.hid eb'
            have F1 := Lib.hid f1
            have F2 := Lib.hid f2
            have F5 := Lib.hid f5
            clear ea' eb' f1 f2 f5
            have tk0 : True := trivial
            have tk1 : True := trivial
            have hzK : (limbs x).length ≤ 70368744177660 := by rw [EM.out]; omega
            have hyK : (limbs y).length ≤ 70368744177660 := by omega
            go_wp2_with fail
            rw [← EM.out]
            obtain ⟨W, hW, hbW, s0, s1, s2, s3⟩ := cof_box w1 u0 u1 v0 v1 false
            rw [hW]
            clear hW
            have jW : w1.heap.size < W.heap.size := by have := s0; exact World.block_lt_of_cell? W _ this
            replace hx := (hx.below b1).below hbW
            replace hy := (hy.below b1).below hbW
            have hbelW : Below w.heap.size w W := (hbel.trans (b1.mono hbel.size)).trans (hbW.mono (Nat.le_trans hbel.size b1.size))
            have hBel : Below W.heap.size W W.drew := (Below.refl _ _).drew
            clear hbel b1 hbW
            go_region_held3 (fun w' => w'.cell? ⟨w1.heap.size, 0, none⟩ = some (.int .u64 (u0 : Int)) ∧ w'.cell? ⟨w1.heap.size, 1, none⟩ = some (.int .u64 (u1 : Int)) ∧ w'.cell? ⟨w1.heap.size, 2, none⟩ = some (.int .u64 (v0 : Int)) ∧ w'.cell? ⟨w1.heap.size, 3, none⟩ = some (.int .u64 (v1 : Int)))
              (first | exact ⟨cellB hBel jW s0, cellB hBel jW s1, cellB hBel jW s2, cellB hBel jW s3⟩ | go_keep)
              (first
                | (go_at_call 111; have _t := tk0; clear tk0; refine (combine_c B A (limbs y) (limbs x) d c v0 u0 a' _ ?_ ?_ ?_ ?_ q2 q0 ?_ ?_).mono ?_; exact hy.below hBel; exact hx.below hBel; omega; omega; (rw [val_limbs, val_limbs]; exact F1.out); (rw [val_limbs, val_limbs]; exact Ea'.out); rintro e w6 ⟨A6, c6, rfl, r6, b6⟩; replace hBel := hBel.trans (b6.mono hBel.size))
                | (go_at_call 111; have _t := tk1; clear tk1; refine (combine_c A B (limbs x) (limbs y) c d u1 v1 b' _ ?_ ?_ ?_ ?_ q1 q3 ?_ ?_).mono ?_; exact hx.below hBel; exact hy.below hBel; omega; omega; (rw [val_limbs, val_limbs]; exact F2.out); (rw [val_limbs, val_limbs]; exact Eb'.out); rintro e w7 ⟨A7, c7, rfl, r7, b7⟩; replace hBel := hBel.trans (b7.mono hBel.size)))
            rename_i hHeld
            clear hHeld
            have h6 := r6.lim.below b7
            have h7 := r7.lim
            have hend : Below w.heap.size w w7 := hbelW.trans (hBel.mono hbelW.size)
            clear r6 r7 b6 b7 hBel
            go_wp2_with fail
            go_roundg (a' + b')
            case measure => omega
            case rel => exact ⟨A6, A7, c6, c7, a', b', rfl, rfl, rfl, h6, h7, f3, la', Lib.hid (by rw [F5.out]; exact hG.out), hend⟩
          · obtain ⟨a', ea'⟩ : ∃ a', x * u0 - y * v0 = a' := ⟨_, rfl⟩
            obtain ⟨b', eb'⟩ : ∃ b', y * v1 - x * u1 = b' := ⟨_, rfl⟩
            have hfin := HLI.out.finish (a := a') (b := b') hDp hv0 (by simp only [if_true]; exact ea'.symm) (by simp only [if_true]; exact eb'.symm)
            simp only [if_true] at hfin
            obtain ⟨f1, f2, f3, f4, f5⟩ := hfin
            have la' : (limbs a').length ≤ K := Nat.le_trans (limbs_mono (show a' ≤ x by omega)) (by rw [EM.out]; exact hm)
            have Ea' := Lib.hid ea'
            have Eb' := Lib.hid eb'
            have F1 := Lib.hid f1
            have F2 := Lib.hid f2
            have F5 := Lib.hid f5
            clear ea' eb' f1 f2 f5
            have tk0 : True := trivial
            have tk1 : True := trivial
            have hzK : (limbs x).length ≤ 70368744177660 := by rw [EM.out]; omega
            have hyK : (limbs y).length ≤ 70368744177660 := by omega
            go_wp2_with fail
            rw [← EM.out]
            obtain ⟨W, hW, hbW, s0, s1, s2, s3⟩ := cof_box w1 u0 u1 v0 v1 true
            rw [hW]
            clear hW
            have jW : w1.heap.size < W.heap.size := by have := s0; exact World.block_lt_of_cell? W _ this
            replace hx := (hx.below b1).below hbW
            replace hy := (hy.below b1).below hbW
            have hbelW : Below w.heap.size w W := (hbel.trans (b1.mono hbel.size)).trans (hbW.mono (Nat.le_trans hbel.size b1.size))
            have hBel : Below W.heap.size W W.drew := (Below.refl _ _).drew
            clear hbel b1 hbW
            go_region_held3 (fun w' => w'.cell? ⟨w1.heap.size, 0, none⟩ = some (.int .u64 (u0 : Int)) ∧ w'.cell? ⟨w1.heap.size, 1, none⟩ = some (.int .u64 (u1 : Int)) ∧ w'.cell? ⟨w1.heap.size, 2, none⟩ = some (.int .u64 (v0 : Int)) ∧ w'.cell? ⟨w1.heap.size, 3, none⟩ = some (.int .u64 (v1 : Int)))
              (first | exact ⟨cellB hBel jW s0, cellB hBel jW s1, cellB hBel jW s2, cellB hBel jW s3⟩ | go_keep)
              (first
                | (go_at_call 111; have _t := tk0; clear tk0; refine (combine_c A B (limbs x) (limbs y) c d u0 v0 a' _ ?_ ?_ ?_ ?_ q0 q2 ?_ ?_).mono ?_; exact hx.below hBel; exact hy.below hBel; omega; omega; (rw [val_limbs, val_limbs]; exact F1.out); (rw [val_limbs, val_limbs]; exact Ea'.out); rintro e w6 ⟨A6, c6, rfl, r6, b6⟩; replace hBel := hBel.trans (b6.mono hBel.size))
                | (go_at_call 111; have _t := tk1; clear tk1; refine (combine_c B A (limbs y) (limbs x) d c v1 u1 b' _ ?_ ?_ ?_ ?_ q3 q1 ?_ ?_).mono ?_; exact hy.below hBel; exact hx.below hBel; omega; omega; (rw [val_limbs, val_limbs]; exact F2.out); (rw [val_limbs, val_limbs]; exact Eb'.out); rintro e w7 ⟨A7, c7, rfl, r7, b7⟩; replace hBel := hBel.trans (b7.mono hBel.size)))
            rename_i hHeld
            clear hHeld
            have h6 := r6.lim.below b7
            have h7 := r7.lim
            have hend : Below w.heap.size w w7 := hbelW.trans (hBel.mono hbelW.size)
            clear r6 r7 b6 b7 hBel
            go_wp2_with fail
            go_roundg (a' + b')
            case measure => omega
            case rel => exact ⟨A6, A7, c6, c7, a', b', rfl, rfl, rfl, h6, h7, f3, la', Lib.hid (by rw [F5.out]; exact hG.out), hend⟩

/-- the greatest common divisor -/
theorem GCD_c (A B : Option Addr) (xs ys : List Nat) (c d : Nat) (w : World) (ha : Lim w A c xs) (hb : Lim w B d ys) (hs : xs.length ≤ 70368744177660) (ht : ys.length ≤ 70368744177660) :
    Calls Try.prog 94 #[.slice A xs.length c, .slice B ys.length d] w (RetNat w (Nat.gcd (val xs) (val ys))) := by
  rcases Nat.lt_or_ge (val xs) (val ys) with h | h
  · exact GCD_lt A B xs ys c d ys.length w ha hb (limbs_length_le hb.lb) ht h
  · exact GCD_ge A B xs ys c d xs.length w ha hb (limbs_length_le ha.lb) hs h
theorem GCD_n (A B : Option Addr) (xs ys : List Nat) (c d : Nat) (w : World) (m n s K L : Nat) (ha : Lim w A c xs) (hb : Lim w B d ys) (hs : xs.length ≤ K) (ht : ys.length ≤ L) (hm : val xs = m) (hn : val ys = n) (h : Nat.gcd m n = s) (hK : K ≤ 70368744177660) (hL : L ≤ 70368744177660) :
    Calls Try.prog 94 #[.slice A xs.length c, .slice B ys.length d] w (RetNat w s) := by
  subst hm hn h; exact GCD_c A B xs ys c d w ha hb (by omega) (by omega)
end Go.Proofs.Ytaeidephegnkdaa
