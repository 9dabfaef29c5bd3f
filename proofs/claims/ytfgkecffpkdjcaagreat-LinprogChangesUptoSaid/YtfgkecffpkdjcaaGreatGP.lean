/- The sizes of what the tape of choices makes. -/
import Derived.Test.YtfgkecffpkdjcaaGreatLZ
import Derived.Test.YtfgkecffpkdjcaaGreatGN
namespace Go.Proofs.YtfgkecffpkdjcaaGreat
open Go.RowKit Gm Go.Vx
theorem sz_mk2 {a:Int} {b:Nat} (ha:a.natAbs < Ba * Ba) (h0:b≠0) (hb:b < Ba * Ba):Sz (mkRat a b) 2:=
 ⟨limbs_two.2 (Nat.lt_of_le_of_lt (mkRat_num_le a b) ha),limbs_two.2 (Nat.lt_of_le_of_lt (mkRat_den_le a h0) hb)⟩
theorem ba2:Ba * Ba = 18446744073709551616:=by decide
theorem sz_trat (F:Nat→Int) (n i:Nat):Sz (tRatV F n i) 2:=by
 have b1:=tNv_bd F n i (m:=13) (by decide)
 have b2:=tNv_bd F n (tNi n i) (m:=4) (by decide)
 exact sz_mk2 (by rw [ba2];omega) (by omega) (by rw [ba2];omega)
theorem sz_tnz (F:Nat→Int) (n i:Nat):Sz (tNzV F n i) 2:=by
 have b1:=tNv_bd F n i (m:=12) (by decide)
 have b2:=tNv_bd F n (tNi n i) (m:=3) (by decide)
 exact sz_mk2 (by rw [ba2];unfold nz;split <;> omega) (by omega) (by rw [ba2];omega)
theorem sz_int {z:Int} (h:z.natAbs < Ba * Ba):Sz (z:Rat) 2:=
 ⟨limbs_two.2 (by rw [Rat.num_intCast];exact h),limbs_two.2 (by rw [Rat.den_intCast,ba2];decide)⟩
theorem sz_lo (F:Nat→Int) (n i:Nat):Sz (gColLo F n i) 2:=by
 unfold gColLo;split
 ·exact sz_trat _ _ _
 ·exact sz01.1.mono (by decide)
theorem sz_up (F:Nat→Int) (n i:Nat):Sz (gColUp F n i) 5:=by
 have b:=tNv_bd F n (gCol2 F n i) (m:=5) (by decide)
 unfold gColUp;split
 ·exact sz_add2 (sz_lo F n i) (sz_int (z:=tNv F n (gCol2 F n i) 5) (by rw [ba2];omega))
 ·exact sz01.1.mono (by decide)
theorem pb_prg4 (F:Nat→Int) (n i:Nat) {K:Nat} (hK:K≤16777216):PB (gPrg F n i 4 4) K:=by
 have h1:=gNc_le (F:=F) (n:=n) (i:=i) (c:=4) (by decide)
 have h2:=gNr_le (F:=F) (n:=n) (i:=i) (c:=4) (r:=4) (by decide)
 refine ⟨by rw [gPrg_cols];omega,by rw [gPrg_rows];omega,fun j=>?_,hK⟩
 by_cases hj:j < gNr F n i 4 4
 ·rw [gPrg_row hj]
  exact Nat.le_trans (gRow_len F n _ _) (by omega)
 ·rw [Prg.row,List.getD_eq_getElem?_getD,List.getElem?_eq_none (by have:=gPrg_rows F n i 4 4;omega)]
  exact Nat.zero_le _
end Go.Proofs.YtfgkecffpkdjcaaGreat
