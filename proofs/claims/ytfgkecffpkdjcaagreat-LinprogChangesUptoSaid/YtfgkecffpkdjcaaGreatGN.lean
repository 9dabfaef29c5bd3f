/- What the tape of choices makes: numbers, columns, rows, programs, as functions of the tape (F, n, i): plain mathematics. -/
import Derived.Test.YtfgkecffpkdjcaaGreatLP
namespace Gm
def md (v n:Int):Int:=v % 18446744073709551616 % n
theorem md_bd (v:Int) {n:Int} (h:1≤n):0≤md v n∧md v n < n:=⟨Int.emod_nonneg _ (by omega),Int.emod_lt_of_pos _ (by omega)⟩
def tNv (F:Nat→Int) (n i:Nat) (m:Int):Int:=if i < n then md (F i) m else 0
def tNi (n i:Nat):Nat:=if i < n then i + 1 else i
theorem tNv_bd (F:Nat→Int) (n i:Nat) {m:Int} (h:1≤m):0≤tNv F n i m∧tNv F n i m < m:=by
 unfold tNv;split
 ·exact md_bd _ h
 ·omega
theorem tNi_le {n i:Nat} (h:i≤n):tNi n i≤n:=by unfold tNi;split <;> omega
def tRatV (F:Nat→Int) (n i:Nat):Rat:=mkRat (tNv F n i 13 - 6) (1 + tNv F n (tNi n i) 4).toNat
def tRatI (n i:Nat):Nat:=tNi n (tNi n i)
theorem tRatI_le {n i:Nat} (h:i≤n):tRatI n i≤n:=tNi_le (tNi_le h)
def nz (z:Int):Int:=if 0≤z then z + 1 else z
def tNzV (F:Nat→Int) (n i:Nat):Rat:=mkRat (nz (tNv F n i 12 - 6)) (1 + tNv F n (tNi n i) 3).toNat
theorem tNzV_ne (F:Nat→Int) (n i:Nat):tNzV F n i≠0:=by
 have h:=tNv_bd F n (tNi n i) (m:=3) (by decide)
 unfold tNzV
 rw [Ne,Rat.mkRat_eq_zero (by omega)]
 unfold nz;split <;> omega
def gColK (F:Nat→Int) (n i:Nat):Int:=tNv F n (tRatI n i) 6
def gCol1 (n i:Nat):Nat:=tNi n (tRatI n i)
def gCol2 (F:Nat→Int) (n i:Nat):Nat:=if 3 < gColK F n i then tRatI n (gCol1 n i) else gCol1 n i
def gCol3 (F:Nat→Int) (n i:Nat):Nat:=if gColK F n i = 1∨gColK F n i = 2∨gColK F n i = 4 then tNi n (gCol2 F n i) else gCol2 F n i
def gColLo (F:Nat→Int) (n i:Nat):Rat:=if 3 < gColK F n i then tRatV F n (gCol1 n i) else 0
def gColUp (F:Nat→Int) (n i:Nat):Rat:=if gColK F n i = 1∨gColK F n i = 2∨gColK F n i = 4 then gColLo F n i + (tNv F n (gCol2 F n i) 5:Int) else 0
def gCol (F:Nat→Int) (n i:Nat):LCol:=⟨tRatV F n i,decide (gColK F n i≠2∧gColK F n i≠3),gColLo F n i,decide (gColK F n i = 1∨gColK F n i = 2∨gColK F n i = 4),gColUp F n i⟩
theorem gCol1_le {n i:Nat} (h:i≤n):gCol1 n i≤n:=tNi_le (tRatI_le h)
theorem gCol2_le {F:Nat→Int} {n i:Nat} (h:i≤n):gCol2 F n i≤n:=by
 unfold gCol2;split
 ·exact tRatI_le (gCol1_le h)
 ·exact gCol1_le h
theorem gCol3_le {F:Nat→Int} {n i:Nat} (h:i≤n):gCol3 F n i≤n:=by
 unfold gCol3;split
 ·exact tNi_le (gCol2_le h)
 ·exact gCol2_le h
theorem gCol_ok (F:Nat→Int) (n i:Nat):¬ Crossed (gCol F n i):=by
 rintro ⟨_,h2,h3⟩
 have e:gColK F n i = 1∨gColK F n i = 2∨gColK F n i = 4:=of_decide_eq_true h2
 have hb:=tNv_bd F n (gCol2 F n i) (m:=5) (by decide)
 have h4:gColUp F n i < gColLo F n i:=h3
 unfold gColUp at h4
 rw [if_pos e] at h4
 have h5:(0:Rat)≤((tNv F n (gCol2 F n i) 5:Int):Rat):=by exact_mod_cast hb.1
 grind
def gEn (F:Nat→Int) (n i:Nat):Nat→List (Int × Rat) × Nat
 | 0=>([],i)
 | j + 1=>if 0 < tNv F n (gEn F n i j).2 3 then ((gEn F n i j).1 ++ [((j:Int),tNzV F n (tNi n (gEn F n i j).2))],tRatI n (tNi n (gEn F n i j).2)) else ((gEn F n i j).1,tNi n (gEn F n i j).2)
theorem gEn_le {F:Nat→Int} {n i:Nat} (h:i≤n):∀ j,(gEn F n i j).2≤n
 | 0=>h
 | j + 1=>by
   have:=gEn_le (F:=F) h j
   rw [gEn];split
   ·exact tRatI_le (tNi_le this)
   ·exact tNi_le this
theorem gEn_len {F:Nat→Int} {n i:Nat}:∀ j,(gEn F n i j).1.length≤j
 | 0=>Nat.le_refl 0
 | j + 1=>by
   have:=gEn_len (F:=F) (n:=n) (i:=i) j
   rw [gEn];split
   ·simp;omega
   ·simp;omega
theorem gEn_ok {F:Nat→Int} {n i:Nat}:∀ j,EntOk (gEn F n i j).1 j
 | 0=>⟨fun k _ h=>absurd h (Nat.not_lt_zero k),fun k h=>absurd h (Nat.not_lt_zero k)⟩
 | j + 1=>by
   have ⟨ha,hb⟩:=gEn_ok (F:=F) (n:=n) (i:=i) j
   rw [gEn];split
   ·refine ⟨fun k h1 h2=>?_,fun k h=>?_⟩
    ·simp at h2
     by_cases h3:k < (gEn F n i j).1.length
     ·simp only [List.getD_eq_getElem?_getD]
      rw [List.getElem?_append_left (by omega),List.getElem?_append_left (by omega)]
      have:=ha k h1 h3
      simpa only [List.getD_eq_getElem?_getD] using this
     ·obtain rfl:k = (gEn F n i j).1.length:=by omega
      simp only [List.getD_eq_getElem?_getD]
      rw [List.getElem?_append_left (by omega),List.getElem?_append_right (by omega)]
      have:=(hb ((gEn F n i j).1.length - 1) (by omega)).2.1
      simp only [List.getD_eq_getElem?_getD] at this
      simpa using this
    ·simp at h
     by_cases h3:k < (gEn F n i j).1.length
     ·simp only [List.getD_eq_getElem?_getD]
      rw [List.getElem?_append_left (by omega)]
      have:=hb k h3
      simp only [List.getD_eq_getElem?_getD] at this
      exact ⟨this.1,by omega,this.2.2⟩
     ·obtain rfl:k = (gEn F n i j).1.length:=by omega
      simp only [List.getD_eq_getElem?_getD]
      rw [List.getElem?_append_right (by omega)]
      simp
      exact ⟨by omega,tNzV_ne _ _ _⟩
   ·exact ⟨ha,fun k h=>⟨(hb k h).1,Int.lt_trans (hb k h).2.1 (by omega),(hb k h).2.2⟩⟩
def gRow1 (n i:Nat):Nat:=tRatI n (tNi n i)
def gRow (F:Nat→Int) (n i m:Nat):LRow:=⟨tNv F n i 3 - 1,tRatV F n (tNi n i),(gEn F n (gRow1 n i) m).1⟩
def gRow2 (F:Nat→Int) (n i m:Nat):Nat:=(gEn F n (gRow1 n i) m).2
theorem gRow2_le {F:Nat→Int} {n i m:Nat} (h:i≤n):gRow2 F n i m≤n:=gEn_le (tRatI_le (tNi_le h)) m
theorem gRow_ok (F:Nat→Int) (n i m:Nat):RowOk (gRow F n i m) m:=by
 have h:=tNv_bd F n i (m:=3) (by decide)
 exact ⟨by show _ - _ = _∨_ - _ = _∨_ - _ = _;omega,gEn_ok m⟩
def gCsI (F:Nat→Int) (n i:Nat):Nat→Nat
 | 0=>i
 | k + 1=>gCol3 F n (gCsI F n i k)
def gCs (F:Nat→Int) (n i k:Nat):LCol:=gCol F n (gCsI F n i k)
theorem gCsI_le {F:Nat→Int} {n i:Nat} (h:i≤n):∀ k,gCsI F n i k≤n
 | 0=>h
 | k + 1=>gCol3_le (gCsI_le h k)
def gRsI (F:Nat→Int) (n i m:Nat):Nat→Nat
 | 0=>i
 | k + 1=>gRow2 F n (gRsI F n i m k) m
def gRs (F:Nat→Int) (n i m k:Nat):LRow:=gRow F n (gRsI F n i m k) m
theorem gRsI_le {F:Nat→Int} {n i m:Nat} (h:i≤n):∀ k,gRsI F n i m k≤n
 | 0=>h
 | k + 1=>gRow2_le (gRsI_le h k)
def gNc (F:Nat→Int) (n i:Nat) (c:Int):Nat:=(1 + tNv F n i c).toNat
def gP1 (F:Nat→Int) (n i:Nat) (c:Int):Nat:=gCsI F n (tNi n i) (gNc F n i c)
def gNr (F:Nat→Int) (n i:Nat) (c r:Int):Nat:=(tNv F n (gP1 F n i c) (r + 1)).toNat
def gP2 (F:Nat→Int) (n i:Nat) (c r:Int):Nat:=gRsI F n (tNi n (gP1 F n i c)) (gNc F n i c) (gNr F n i c r)
def gPrg (F:Nat→Int) (n i:Nat) (c r:Int):Prg:=⟨(List.range (gNc F n i c)).map (gCs F n (tNi n i)),(List.range (gNr F n i c r)).map (gRs F n (tNi n (gP1 F n i c)) (gNc F n i c))⟩
theorem gNc_le {F:Nat→Int} {n i:Nat} {c:Int} (h:1≤c):(gNc F n i c:Int)≤c:=by
 have:=tNv_bd F n i h;unfold gNc;omega
theorem gNr_le {F:Nat→Int} {n i:Nat} {c r:Int} (h:0≤r):(gNr F n i c r:Int)≤r:=by
 have:=tNv_bd F n (gP1 F n i c) (m:=r + 1) (by omega);unfold gNr;omega
theorem gPrg_cols (F:Nat→Int) (n i:Nat) (c r:Int):(gPrg F n i c r).cols.length = gNc F n i c:=by simp [gPrg]
theorem gPrg_rows (F:Nat→Int) (n i:Nat) (c r:Int):(gPrg F n i c r).rows.length = gNr F n i c r:=by simp [gPrg]
theorem gPrg_col {F:Nat→Int} {n i:Nat} {c r:Int} {j:Nat} (h:j < gNc F n i c):(gPrg F n i c r).col j = gCs F n (tNi n i) j:=by
 simp [Prg.col,gPrg,List.getD_eq_getElem?_getD,h]
theorem gPrg_row {F:Nat→Int} {n i:Nat} {c r:Int} {j:Nat} (h:j < gNr F n i c r):(gPrg F n i c r).row j = gRs F n (tNi n (gP1 F n i c)) (gNc F n i c) j:=by
 simp [Prg.row,gPrg,List.getD_eq_getElem?_getD,h]
theorem gPrg_vld {F:Nat→Int} {n i:Nat} {c r:Int} (hc:1≤c) (hr:0≤r) (hc2:c≤16384) (hr2:r≤16384):Vld (gPrg F n i c r):=by
 have h1:=gNc_le (F:=F) (n:=n) (i:=i) hc
 have h2:=gNr_le (F:=F) (n:=n) (i:=i) (c:=c) hr
 refine ⟨by rw [gPrg_cols];omega,by rw [gPrg_rows];omega,fun j hj=>?_,fun j hj=>?_⟩
 ·rw [gPrg_cols] at hj;rw [gPrg_col hj];exact gCol_ok _ _ _
 ·rw [gPrg_rows] at hj;rw [gPrg_row hj,gPrg_cols];exact gRow_ok _ _ _ _
theorem gRow_len (F:Nat→Int) (n i m:Nat):(gRow F n i m).es.length≤m:=gEn_len m
end Gm
