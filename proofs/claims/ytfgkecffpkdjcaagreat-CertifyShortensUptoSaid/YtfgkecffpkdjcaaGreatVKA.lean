/- Package law11: the example, the check, by the executor; lists that the tape made. -/
import Derived.Test.YtfgkecffpkdjcaaGreatVI
import Derived.Test.YtfgkecffpkdjcaaGreatVTP
namespace Go.Proofs.YtfgkecffpkdjcaaGreat
open Go.RowKit Gm Go.Vx
set_option maxRecDepth 100000
theorem rg_map {f:Nat→Rat} {n j:Nat} (h:j < n):rg ((List.range n).map f) j = f j:=by simp [rg,List.getD_eq_getElem?_getD,h]
theorem made_fit (f:Nat→Rat) (n:Nat) {K L:Nat} (h:K≤L):fitC (rlAv ((List.range n).map f) L) (.cons (madeAv f n K) .nil):=And.intro rfl (And.intro (by simp) fun j hj=>And.intro (And.intro (rg_map (by simpa using hj)).symm (.inl h)) True.intro)
theorem made_len (f:Nat→Rat) (n:Nat):((List.range n).map f).length = n:=by simp
theorem wt_fun {f:Nat→Rat} {k:Nat} (m:Nat) (h:∀ i,Sz (f i) k):Wt ((List.range m).map f) (m * k):=by
 have:=wt_const (nums:=fun q=>[q]) (f:=f) (k:=k) m fun i _=>Gm.Sz.wt (h i)
 have e:∀ l:List Rat,l.flatMap (fun q=>[q]) = l:=fun l=>by rw [← List.map_eq_flatMap];simp
 rwa [e] at this
theorem gp_bd (F:Nat→Int) (n:Nat):(gPrg F n 0 4 4).cols.length≤4∧(gPrg F n 0 4 4).rows.length≤4:=by
 have h1:=gNc_le (F:=F) (n:=n) (i:=0) (c:=4) (by decide)
 have h2:=gNr_le (F:=F) (n:=n) (i:=0) (c:=4) (r:=4) (by decide)
 rw [gPrg_cols,gPrg_rows];omega
end Go.Proofs.YtfgkecffpkdjcaaGreat
