/- Contracts that were proved by walks, as the executor takes them. -/
import Derived.Test.YtnjannpoemdbaaaGreatVT
namespace Go.Proofs.YtnjannpoemdbaaaGreat
open Go.RowKit Gm Go.Vx

theorem szi_add {m n : Int} {k l : Nat} (h : SzI m k) (h2 : SzI n l) : SzI (m + n) (k + l + 1) := isum_sz h h2 rfl (by omega) (by omega)
theorem szi_sub {m n : Int} {k l : Nat} (h : SzI m k) (h2 : SzI n l) : SzI (m - n) (k + l + 1) := isub_sz h h2 rfl (by omega) (by omega)
theorem szi_mul {m n : Int} {k l : Nat} (h : SzI m k) (h2 : SzI n l) : SzI (m * n) (k + l) := imul_sz h h2 rfl (Nat.le_refl _)
theorem szi_neg {m : Int} {k : Nat} (h : SzI m k) : SzI (-m) k := ineg_sz h rfl
theorem szi_abs {m n : Int} {k : Nat} (h : SzI m k) (e : n.natAbs ≤ m.natAbs) : SzI n k := Nat.le_trans (limbs_mono e) h
theorem szi_div {m n : Int} {k : Nat} (h : SzI m k) : SzI (m / n) k := szi_abs h (Int.natAbs_ediv_le_natAbs _ _)
theorem szi_mod {m n : Int} {k : Nat} (h : SzI n k) (h0 : n ≠ 0) : SzI (m % n) k := szi_abs h (by have := Int.emod_nonneg m h0; have := Int.emod_lt m h0; omega)
theorem szi_nat {n : Int} (h : n.natAbs ≤ 18446744073709551615) : SzI n 2 := limbs_two.2 (Nat.lt_of_le_of_lt h (by decide))
theorem sz_add2 {r s : Rat} {k l : Nat} (h : Sz r k) (h2 : Sz s l) : Sz (r + s) (k + l + 1) := by
  have hm : r + s = mkRat (r.num * (s.den : Int) + s.num * (r.den : Int)) (r.den * s.den) := Rat.add_def' r s
  rw [hm]
  constructor
  · refine Nat.le_trans (limbs_mono (mkRat_num_le _ _)) ?_
    have z1 : (limbs (r.num * (s.den : Int)).natAbs).length ≤ k + l := imul_sz h.1 (n := (s.den : Int)) (by rw [Int.natAbs_natCast]; exact h2.2) rfl (Nat.le_refl _)
    have z2 : (limbs (s.num * (r.den : Int)).natAbs).length ≤ k + l := imul_sz h2.1 (n := (r.den : Int)) (by rw [Int.natAbs_natCast]; exact h.2) rfl (by omega)
    exact isum_sz z1 z2 rfl (by omega) (by omega)
  · refine Nat.le_trans (limbs_mono (mkRat_den_le _ (Nat.mul_ne_zero r.den_nz s.den_nz))) ?_
    exact nmul_sz h.2 h2.2 rfl (by omega)
theorem sz_mul2 {r s : Rat} {k l : Nat} (h : Sz r k) (h2 : Sz s l) : Sz (r * s) (k + l) := by
  have hm : r * s = mkRat (r.num * s.num) (r.den * s.den) := Rat.mul_def' r s
  rw [hm]
  constructor
  · refine Nat.le_trans (limbs_mono (mkRat_num_le _ _)) ?_
    exact imul_sz h.1 h2.1 rfl (Nat.le_refl _)
  · refine Nat.le_trans (limbs_mono (mkRat_den_le _ (Nat.mul_ne_zero r.den_nz s.den_nz))) ?_
    exact nmul_sz h.2 h2.2 rfl (Nat.le_refl _)
theorem sz_neg1 {r : Rat} {k : Nat} (h : Sz r k) : Sz (-r) k := by
  unfold Sz; rw [Rat.neg_num, Rat.neg_den, Int.natAbs_neg]; exact h
theorem sz_inv1 {r : Rat} {k : Nat} (h : Sz r k) : Sz r⁻¹ k := by
  by_cases h0 : r = 0
  · rw [h0, Rat.inv_zero]; rw [h0] at h; exact h
  · obtain ⟨_, a2, a3⟩ := inv_parts h0
    unfold Sz; rw [a2, a3]; exact ⟨h.2, h.1⟩
theorem sz_mk {n : Int} {d k l : Nat} (h : SzI n k) (h2 : SzI (d : Int) l) : Sz (mkRat n d) (k + l + 1) := by
  constructor
  · exact Nat.le_trans (limbs_mono (mkRat_num_le _ _)) (Nat.le_trans h (by omega))
  · by_cases h0 : d = 0
    · subst h0; rw [Rat.mkRat_zero]; show (limbs 1).length ≤ _; rw [limbs1_len]; omega
    · unfold SzI at h2; rw [Int.natAbs_natCast] at h2
      exact Nat.le_trans (limbs_mono (mkRat_den_le _ h0)) (by omega)
theorem szi_floor {r : Rat} {k : Nat} (h : Sz r k) : SzI r.floor k := by
  rw [Rat.floor_def]; exact szi_div h.num
theorem bb_le {K : Nat} (h : K ≤ 4294967296) : K ≤ 1099511627776 := Nat.le_trans h (by decide)

def IAdd_s : PSpec Tryz.prog := ⟨61, spZZ (fun _ _ _ _ => True) (fun m K n L => zAv (m + n) (K + L + 1)), spZZ_ok fun _ _ _ _ _ _ _ _ _ _ ho h1 h2 z1 z2 hK _ => CallOk.z ho (szi_add z1 z2) (IAdd_v h1 h2 (bb_le hK) rfl), by kernel_rfl⟩
def ISub_s : PSpec Tryz.prog := ⟨31, spZZ (fun _ _ _ _ => True) (fun m K n L => zAv (m - n) (K + L + 1)), spZZ_ok fun _ _ _ _ _ _ _ _ _ _ ho h1 h2 z1 z2 hK _ => CallOk.z ho (szi_sub z1 z2) (ISub_v h1 h2 (bb_le hK) rfl), by kernel_rfl⟩
def IMul_s : PSpec Tryz.prog := ⟨62, spZZ (fun _ _ _ _ => True) (fun m K n L => zAv (m * n) (K + L)), spZZ_ok fun _ _ _ _ _ _ _ _ _ _ ho h1 h2 z1 z2 hK _ => CallOk.z ho (szi_mul z1 z2) (IMul_v h1 h2 (bb_le hK) rfl), by kernel_rfl⟩
def INeg_s : PSpec Tryz.prog := ⟨78, spZ (fun _ _ => True) (fun m K => zAv (-m) K), spZ_ok fun _ _ _ _ _ _ ho h1 z1 hK _ => CallOk.z ho (szi_neg z1) (INeg_v h1 (bb_le hK) rfl), by kernel_rfl⟩
def INorm_s : PSpec Tryz.prog := ⟨81, spZ (fun _ _ => True) (fun m K => zAv m K), spZ_ok fun _ _ _ _ _ _ ho h1 z1 hK _ => CallOk.z ho z1 (INorm_v h1 (bb_le hK) rfl), by kernel_rfl⟩
def ICmp_s : PSpec Tryz.prog := ⟨28, spZZ (fun _ _ _ _ => True) (fun m _ n _ => .val (.int .i64 (cmpI m n))), spZZ_ok fun _ _ _ _ _ _ _ _ _ _ _ h1 h2 _ _ hK _ => CallOk.i (ICmp_v h1 h2 (bb_le hK) rfl), by kernel_rfl⟩
def ISign_s : PSpec Tryz.prog := ⟨45, spZ (fun _ _ => True) (fun m _ => .val (.int .i64 (sgn m))), spZ_ok fun _ _ _ _ _ _ _ h1 _ hK _ => CallOk.i (ISign_v h1 (bb_le hK) rfl), by kernel_rfl⟩
def IDivMod_s : PSpec Tryz.prog := ⟨30, spZZ (fun _ _ n _ => n ≠ 0) (fun m K n L => .tup (.cons (zAv (m / n) K) (.cons (zAv (m % n) L) (.cons (.kb true) .nil)))), spZZ_ok fun _ _ _ _ _ _ _ _ _ _ ho h1 h2 z1 z2 hK h0 => CallOk.zz ho (szi_div z1) (szi_mod z2 h0) (IDivMod_v h1 h2 (bb_le hK) h0 rfl rfl), by kernel_rfl⟩
def IFromInt_s : PSpec Tryz.prog := ⟨27, spI (fun n => zAv n 2) (fun n => -9223372036854775808 ≤ n ∧ n ≤ 9223372036854775807), spI_ok fun _ _ _ ho h => CallOk.z ho (szi_nat (by omega)) (IFromInt_v h.1 h.2 rfl), by kernel_rfl⟩
def rIAdd_s : PSpec Tryz.prog := ⟨65, spZZ (fun _ _ _ _ => True) (fun m K n L => zAv (m + n) (K + L + 1)), spZZ_ok fun _ _ _ _ _ _ _ _ _ _ ho h1 h2 z1 z2 hK _ => CallOk.z ho (szi_add z1 z2) (rIAdd_v h1 h2 (bb_le hK) rfl), by kernel_rfl⟩
def rISub_s : PSpec Tryz.prog := ⟨67, spZZ (fun _ _ _ _ => True) (fun m K n L => zAv (m - n) (K + L + 1)), spZZ_ok fun _ _ _ _ _ _ _ _ _ _ ho h1 h2 z1 z2 hK _ => CallOk.z ho (szi_sub z1 z2) (rISub_v h1 h2 (bb_le hK) rfl), by kernel_rfl⟩
def rIMul_s : PSpec Tryz.prog := ⟨44, spZZ (fun _ _ _ _ => True) (fun m K n L => zAv (m * n) (K + L)), spZZ_ok fun _ _ _ _ _ _ _ _ _ _ ho h1 h2 z1 z2 hK _ => CallOk.z ho (szi_mul z1 z2) (rIMul_v h1 h2 (bb_le hK) rfl), by kernel_rfl⟩
def rINorm_s : PSpec Tryz.prog := ⟨41, spZ (fun _ _ => True) (fun m K => zAv m K), spZ_ok fun _ _ _ _ _ _ ho h1 z1 hK _ => CallOk.z ho z1 (rINorm_v h1 (bb_le hK) rfl), by kernel_rfl⟩
theorem rINeg_w {w : World} {b s : Value} {m : Int} {K : Nat} {q : Int} (h : IsInt w b s m K) (hK : K ≤ 1099511627776) (e : -m = q) : Calls Tryz.prog 43 #[.agg #[b, s]] w (RetZ w q) := by
  obtain ⟨p, A, xs, c, rfl, rfl, ha, hs, hm⟩ := h
  exact (rNeg_n p A xs c w m q K ha hs hm e (by omega)).mono fun _ _ h => h.z
def rINeg_s : PSpec Tryz.prog := ⟨43, spZ (fun _ _ => True) (fun m K => zAv (-m) K), spZ_ok fun _ _ _ _ _ _ ho h1 z1 hK _ => CallOk.z ho (szi_neg z1) (rINeg_w h1 (bb_le hK) rfl), by kernel_rfl⟩
def rISign_s : PSpec Tryz.prog := ⟨39, spZ (fun _ _ => True) (fun m _ => .val (.int .i64 (sgn m))), spZ_ok fun _ _ _ _ _ _ _ h1 _ hK _ => CallOk.i (rISign_v h1 (bb_le hK) rfl), by kernel_rfl⟩
def rIDivMod_s : PSpec Tryz.prog := ⟨35, spZZ (fun _ _ n _ => n ≠ 0) (fun m K n L => .tup (.cons (zAv (m / n) K) (.cons (zAv (m % n) L) (.cons (.kb true) .nil)))), spZZ_ok fun _ _ _ _ _ _ _ _ _ _ ho h1 h2 z1 z2 hK h0 => CallOk.zz ho (szi_div z1) (szi_mod z2 h0) (rIDivMod_v h1 h2 (bb_le hK) h0 rfl rfl), by kernel_rfl⟩
theorem szi_gcd {m n : Int} {k l : Nat} (h1 : SzI m k) (h2 : SzI n l) : SzI ((Nat.gcd m.natAbs n.natAbs : Nat) : Int) (k + l) := by
  unfold SzI
  rw [Int.natAbs_natCast]
  by_cases h0 : m.natAbs = 0
  · rw [h0, Nat.gcd_zero_left]; exact Nat.le_trans h2 (by omega)
  · exact Nat.le_trans (limbs_mono (Nat.gcd_le_left _ (Nat.pos_of_ne_zero h0))) (Nat.le_trans h1 (by omega))
def rIGCD_s : PSpec Tryz.prog := ⟨42, spZZ (fun _ _ _ _ => True) (fun m K n L => zAv ((Nat.gcd m.natAbs n.natAbs : Nat) : Int) (K + L)), spZZ_ok fun _ _ _ _ _ _ _ _ _ _ ho h1 h2 z1 z2 hK _ => CallOk.z ho (szi_gcd z1 z2) (rIGCD_v h1 h2 (bb_le hK) rfl), by kernel_rfl⟩
def rIFromInt_s : PSpec Tryz.prog := ⟨5, spI (fun n => zAv n 2) (fun n => -9223372036854775808 ≤ n ∧ n ≤ 9223372036854775807), spI_ok fun _ _ _ ho h => CallOk.z ho (szi_nat (by omega)) (rIFromInt_v h.1 h.2 rfl), by kernel_rfl⟩
def rNEq_s : PSpec Tryz.prog := ⟨26, spCC (fun m n => .val (.bool (decide (m = n)))), spCC_ok fun _ w A c B d m n _ ha hb hz => CallOk.b ((rEqual_c A B (limbs m) (limbs n) c d w ha hb (by omega) (by omega)).mono fun e w' h => by
    obtain ⟨rfl, k, rfl⟩ := h
    refine ⟨?_, below_drewN (Below.refl _ _) k⟩
    have : (limbs m = limbs n) ↔ m = n := ⟨fun h => by have := congrArg val h; rwa [val_limbs, val_limbs] at this, fun h => by rw [h]⟩
    rw [decide_eq_decide.2 this]), by kernel_rfl⟩
def RNorm_s : PSpec Tryz.prog := ⟨29, spQ (fun _ _ => True) (fun m K => qAv m K), spQ_ok fun _ _ _ _ _ _ _ ho h1 z1 hK _ => CallOk.q ho z1 (RNorm_v h1 (bb_le hK) rfl), by kernel_rfl⟩
def RNeg_s : PSpec Tryz.prog := ⟨49, spQ (fun _ _ => True) (fun m K => qAv (-m) K), spQ_ok fun _ _ _ _ _ _ _ ho h1 z1 hK _ => CallOk.q ho (sz_neg1 z1) (RNeg_v h1 (bb_le hK) rfl), by kernel_rfl⟩
def RSign_s : PSpec Tryz.prog := ⟨47, spQ (fun _ _ => True) (fun m _ => .val (.int .i64 (sgn m.num))), spQ_ok fun _ _ _ _ _ _ _ _ h1 _ hK _ => CallOk.i (RSign_v h1 (bb_le hK) rfl), by kernel_rfl⟩
def RFloor_s : PSpec Tryz.prog := ⟨74, spQ (fun _ _ => True) (fun m K => zAv m.floor K), spQ_ok fun _ _ _ _ _ _ _ ho h1 z1 hK _ => CallOk.z ho (szi_floor z1) (RFloor_v h1 (bb_le hK) rfl), by kernel_rfl⟩
def RAdd_s : PSpec Tryz.prog := ⟨97, spQQ (fun _ _ _ _ => True) (fun m K n L => qAv (m + n) (K + L + 1)), spQQ_ok fun _ _ _ _ _ _ _ _ _ _ _ _ ho h1 h2 z1 z2 hK _ => CallOk.q ho (sz_add2 z1 z2) (RAdd_v h1 h2 (bb_le hK) rfl), by kernel_rfl⟩
def RCmp_s : PSpec Tryz.prog := ⟨46, spQQ (fun _ _ _ _ => True) (fun m _ n _ => .val (.int .i64 (cmpR m n))), spQQ_ok fun _ _ _ _ _ _ _ _ _ _ _ _ _ h1 h2 _ _ hK _ => CallOk.i (RCmp_v h1 h2 (Nat.le_trans hK (by decide)) rfl), by kernel_rfl⟩
/-- a number and whether there is one -/
def optAv (r : Rat) (K : Nat) : Bool → Av
  | true => qyAv r K
  | false => qnAv
/-- the inverse: whether there is one is chosen with a reason -/
def spInv : Go.Vx.Spec
  | [.agg a] => match asRat a with
    | some (n, K) => .gh Bool (fun b => K ≤ 4294967296 ∧ (b = true ↔ n ≠ 0)) (optAv n⁻¹ K)
    | none => .no
  | _ => .no
theorem spInv_ok : SpecOk Tryz.prog 76 spInv := by
  intro own w vs xs hown ha
  cases ha with
  | nil => trivial
  | @cons v x _ _ hx ht =>
    cases ht with
    | cons _ _ => cases v <;> trivial
    | nil =>
      cases v with
      | agg a =>
        cases hr : asRat a with
        | none => simp only [spInv, hr]
        | some q =>
          obtain ⟨n, K⟩ := q
          simp only [spInv, hr]
          intro g hp
          obtain ⟨b, s, t, rfl, hi⟩ := arg_q hx hr
          cases g with
          | true => exact CallOk.qy hown (sz_inv1 hi.sz) (RInvY_v hi (bb_le hp.1) (hp.2.1 rfl) rfl)
          | false => exact CallOk.qn (RInvN_v hi (by rcases Classical.em (n = 0) with h | h; exact h; exact absurd (hp.2.2 h) (by simp)))
      | _ => trivial
def RInv_s : PSpec Tryz.prog := ⟨76, spInv, spInv_ok, by kernel_rfl⟩
def rRNorm_s : PSpec Tryz.prog := ⟨36, spQ (fun _ _ => True) (fun m K => qAv m K), spQ_ok fun _ _ _ _ _ _ _ ho h1 z1 hK _ => CallOk.q ho z1 (rRNorm_v h1 (bb_le hK) rfl), by kernel_rfl⟩
theorem sz01 : Sz 0 1 ∧ Sz 1 1 := by
  have h1 : (limbs 1).length = 1 := limbs1_len
  refine ⟨⟨?_, ?_⟩, ⟨?_, ?_⟩⟩
  · show (limbs 0).length ≤ 1; rw [limbs_zero]; simp
  · show (limbs 1).length ≤ 1; omega
  · show (limbs 1).length ≤ 1; omega
  · show (limbs 1).length ≤ 1; omega
def rZero_s : PSpec Tryz.prog := ⟨40, sp0 (qAv 0 1), sp0_ok fun _ _ ho => CallOk.q ho sz01.1 rZero_v, by kernel_rfl⟩
def rROf_s : PSpec Tryz.prog := ⟨22, spII (fun n d => qAv (mkRat n d.toNat) 5) (fun n d => -9223372036854775808 ≤ n ∧ n ≤ 9223372036854775807 ∧ 1 ≤ d ∧ d ≤ 9223372036854775807), spII_ok fun _ _ n d ho h => CallOk.q ho (sz_mk (szi_nat (by omega)) (szi_nat (by omega))) (rROf_v h.1 h.2.1 h.2.2.1 h.2.2.2 rfl), by kernel_rfl⟩
def rRFromInt_s : PSpec Tryz.prog := ⟨19, spI (fun n => qAv (mkRat n 1) 5) (fun n => -9223372036854775808 ≤ n ∧ n ≤ 9223372036854775807), spI_ok fun _ _ n ho h => CallOk.q ho (sz_mk (szi_nat (by omega)) (szi_nat (n := (1 : Nat)) (by decide))) (rRFromInt_v h.1 h.2 rfl), by kernel_rfl⟩
def rMake_s : PSpec Tryz.prog := ⟨17, spZZg (fun m _ n _ (g : Rat × Nat) => 0 ≤ n ∧ mkRat m n.toNat = g.1 ∧ Sz g.1 g.2) (fun _ _ _ _ g => qAv g.1 g.2), spZZg_ok fun _ _ _ _ _ _ _ _ _ _ _ ho h1 h2 _ _ hK h0 => CallOk.q ho h0.2.2 (rMake_v h1 h2 (bb_le hK) (Int.toNat_of_nonneg h0.1).symm h0.2.1), by kernel_rfl⟩
end Go.Proofs.YtnjannpoemdbaaaGreat
