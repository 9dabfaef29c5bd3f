/- The examples that the checks of chapter 12 run. -/
import Derived.Test.YtfgkecffpkdjcaaGreatLY
namespace Go.Proofs.YtfgkecffpkdjcaaGreat
open Go.RowKit Gm Go.Vx
def exP:Prg:=⟨[⟨mkRat 1 1,true,mkRat 0 0,true,mkRat 2 1⟩,⟨mkRat 2 1,true,mkRat 0 0,false,mkRat 0 0⟩],[⟨1,mkRat 3 1,[(0,mkRat 1 1),(1,mkRat 1 1)]⟩]⟩
theorem lt_two {P:Nat→Prop} (h0:P 0) (h1:P 1):∀ i,i < 2→P i:=fun i hi=>by
 rcases i with _ | _ | i
 ·exact h0
 ·exact h1
 ·omega
theorem lt_one {P:Nat→Prop} (h0:P 0):∀ i,i < 1→P i:=fun i hi=>by
 rcases i with _ | i
 ·exact h0
 ·omega
theorem exV:Vld exP:=by
 refine ⟨by decide,by decide,lt_two ?_ ?_,lt_one ⟨.inr (.inr rfl),?_,lt_two ?_ ?_⟩⟩
 ·rintro ⟨_,_,h⟩;revert h;decide +kernel
 ·rintro ⟨_,h,_⟩;revert h;decide +kernel
 ·intro k h1 h2
  have h3:k = 1:=by have:k < 2:=h2;omega
  subst h3;decide +kernel
 ·decide +kernel
 ·decide +kernel
theorem ex_bnd:bnd exP [mkRat 2 1] = mkRat 4 1:=by decide +kernel
theorem ex_b2:BndOk exP [mkRat 2 1]:=by
 refine ⟨⟨exV,rfl,lt_one ?_⟩,lt_two ?_ ?_⟩
 ·decide +kernel
 ·unfold bOk;decide +kernel
 ·unfold bOk;decide +kernel
theorem ex_opt:Opt exP [mkRat 2 1,mkRat 1 1] [mkRat 2 1]:=by
 refine ⟨⟨exV,rfl,lt_two ?_ ?_,lt_one ?_⟩,ex_b2,by decide +kernel⟩
 ·unfold OutB;decide +kernel
 ·unfold OutB;decide +kernel
 ·unfold Broken;decide +kernel
theorem ex_pb {p:Prg} (h1:p.cols.length≤1048576) (h2:p.rows.length≤1048576) (h3:∀ r ∈ p.rows,r.es.length≤1048576):PB p 5:=⟨h1,h2,fun i=>by
 rcases getD_or p.rows i rowZ with h | h
 ·exact h3 _ h
 ·show (p.rows.getD i rowZ).es.length≤_
  rw [h];exact Nat.zero_le _,by decide⟩
theorem exPB:PB exP 5:=ex_pb (by decide) (by decide) (by decide)
theorem wt_dec {l:List Rat} (h1:dProd l≤4294967296) (h2:nProd l≤4294967296):Wt l 1:=⟨by rw [Nat.pow_one,Ba_eq];exact h1,by rw [Nat.pow_one,Ba_eq];exact h2⟩
theorem exX:PX exP [mkRat 2 1,mkRat 1 1] 5 9:=px_of exPB (wt_dec (by decide +kernel) (by decide +kernel)) (by decide)
theorem exY:PY exP [mkRat 2 1] 5 9:=py_of exPB (wt_dec (by decide +kernel) (by decide +kernel)) (by decide)
end Go.Proofs.YtfgkecffpkdjcaaGreat
