/- The examples that the checks of chapter 12 run. -/
import Derived.Test.YtfgkecffpkdjcaaGreatLY
namespace Go.Proofs.YtfgkecffpkdjcaaGreat
open Go.RowKit Gm Go.Vx
def exP:Prg:=⟨[⟨mkRat 1 1,true,mkRat 0 0,true,mkRat 2 1⟩,⟨mkRat 2 1,true,mkRat 0 0,false,mkRat 0 0⟩],[⟨1,mkRat 3 1,[(0,mkRat 1 1),(1,mkRat 1 1)]⟩]⟩
def noP:Prg:=⟨[⟨mkRat 0 0,false,mkRat 0 0,true,mkRat 0 0⟩],[⟨1,mkRat 1 1,[(0,mkRat 1 1)]⟩]⟩
theorem lt_two {P:Nat→Prop} (h0:P 0) (h1:P 1):∀ i,i < 2→P i:=fun i hi=>by
 rcases i with _ | _ | i
 ·exact h0
 ·exact h1
 ·omega
theorem lt_one {P:Nat→Prop} (h0:P 0):∀ i,i < 1→P i:=fun i hi=>by
 rcases i with _ | i
 ·exact h0
 ·omega
theorem exV:Vld exP:=by
 refine ⟨by decide,by decide,lt_two ?_ ?_,lt_one ⟨.inr (.inr rfl),?_,lt_two ?_ ?_⟩⟩
 ·rintro ⟨_,_,h⟩;revert h;decide +kernel
 ·rintro ⟨_,h,_⟩;revert h;decide +kernel
 ·intro k h1 h2
  have h3:k = 1:=by have:k < 2:=h2;omega
  subst h3;decide +kernel
 ·decide +kernel
 ·decide +kernel
theorem ex_bnd:bnd exP [mkRat 2 1] = mkRat 4 1:=by decide +kernel
theorem ex_b2:BndOk exP [mkRat 2 1]:=by
 refine ⟨⟨exV,rfl,lt_one ?_⟩,lt_two ?_ ?_⟩
 ·decide +kernel
 ·unfold bOk;decide +kernel
 ·unfold bOk;decide +kernel
theorem ex_opt:Opt exP [mkRat 2 1,mkRat 1 1] [mkRat 2 1]:=by
 refine ⟨⟨exV,rfl,lt_two ?_ ?_,lt_one ?_⟩,ex_b2,by decide +kernel⟩
 ·unfold OutB;decide +kernel
 ·unfold OutB;decide +kernel
 ·unfold Broken;decide +kernel
theorem noV:Vld noP.free:=by
 refine ⟨by decide,by decide,lt_one ?_,lt_one ⟨.inr (.inr rfl),?_,lt_one ?_⟩⟩
 ·rintro ⟨h,_,_⟩;revert h;decide +kernel
 ·intro k h1 h2
  have:k < 1:=h2
  omega
 ·decide +kernel
theorem no_inf:Infs noP [mkRat 1 1]:=by
 refine ⟨⟨⟨noV,rfl,lt_one ?_⟩,lt_one ?_⟩,by decide +kernel⟩
 ·decide +kernel
 ·unfold bOk;decide +kernel
theorem ex_noinf:¬ Infs exP [mkRat 1 1]:=fun h=>by
 have:=h.1.b 1 (by decide)
 unfold bOk at this
 revert this;decide +kernel
theorem ex_pb {p:Prg} (h1:p.cols.length≤1048576) (h2:p.rows.length≤1048576) (h3:∀ r ∈ p.rows,r.es.length≤1048576):PB p 5:=⟨h1,h2,fun i=>by
 rcases getD_or p.rows i rowZ with h | h
 ·exact h3 _ h
 ·show (p.rows.getD i rowZ).es.length≤_
  rw [h];exact Nat.zero_le _,by decide⟩
theorem exPB:PB exP 5:=ex_pb (by decide) (by decide) (by decide)
theorem exFB:PB exP.free 5:=ex_pb (by decide) (by decide) (by decide)
theorem noFB:PB noP.free 5:=ex_pb (by decide) (by decide) (by decide)
theorem wt_dec {l:List Rat} (h1:dProd l≤4294967296) (h2:nProd l≤4294967296):Wt l 1:=⟨by rw [Nat.pow_one,Ba_eq];exact h1,by rw [Nat.pow_one,Ba_eq];exact h2⟩
theorem exX:PX exP [mkRat 2 1,mkRat 1 1] 5 9:=px_of exPB (wt_dec (by decide +kernel) (by decide +kernel)) (by decide)
theorem exY:PY exP [mkRat 2 1] 5 9:=py_of exPB (wt_dec (by decide +kernel) (by decide +kernel)) (by decide)
theorem exF:PY exP.free [mkRat 1 1] 5 9:=py_of exFB (wt_dec (by decide +kernel) (by decide +kernel)) (by decide)
theorem noF:PY noP.free [mkRat 1 1] 5 9:=py_of noFB (wt_dec (by decide +kernel) (by decide +kernel)) (by decide)
theorem sz_dec {q:Rat} (h1:q.num.natAbs < 4294967296) (h2:q.den < 4294967296):Sz q 5:=
 ⟨Nat.le_trans (limbs_length_lt (k:=1) (by rw [Nat.pow_one,Ba_eq];exact h1)) (by decide),Nat.le_trans (limbs_length_lt (k:=1) (by rw [Nat.pow_one,Ba_eq];exact h2)) (by decide)⟩
theorem exS:SH exP [mkRat 2001 1000] 5 15:=sh_of (a:=1) (b:=1) exPB (wt_dec (by decide +kernel) (by decide +kernel)) (wt_dec (by decide +kernel) (by decide +kernel)) (by decide) (by decide) (by decide) (fun j=>by
 rcases getD_or [mkRat 2001 1000] j 0 with h | h
 ·have:rg [mkRat 2001 1000] j = mkRat 2001 1000:=List.mem_singleton.1 h
  rw [this];exact sz_dec (by decide +kernel) (by decide +kernel)
 ·show Sz (List.getD _ _ _) _
  rw [h];exact sz_dec (by decide +kernel) (by decide +kernel)) (by decide)
theorem ex_cand:candL [mkRat 2001 1000] (pw 0).num = [mkRat 2 1]:=by
 have h:=(Gm.neighbors (a:=mkRat 2001 1000) (M:=1) (p:=2) (s:=1) (p':=3) (s':=1) (by decide) (by decide) (by decide) (by decide) (by decide) (by decide +kernel) (by decide +kernel) (by decide)).1
 have e:cand (mkRat 2001 1000) 1 = mkRat 2 1:=by
  unfold cand
  rw [if_pos (by decide +kernel),bel_eq h];decide +kernel
 show [cand (mkRat 2001 1000) 1] = _
 rw [e]
theorem ex_sh:shL exP [mkRat 2001 1000] (mkRat 4 1) 1 = [mkRat 2 1]:=by
 rw [shL_found (i:=0) (by decide +kernel) (by rw [ex_cand];exact ⟨ex_b2,by decide +kernel⟩) (fun j hj=>by omega),ex_cand]
end Go.Proofs.YtfgkecffpkdjcaaGreat
