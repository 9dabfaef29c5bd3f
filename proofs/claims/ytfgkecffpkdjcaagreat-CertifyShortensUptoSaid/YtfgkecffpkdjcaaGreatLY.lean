/- The sizes of programs without costs and of candidates. -/
import Derived.Test.YtfgkecffpkdjcaaGreatLZ
import Derived.Test.YtfgkecffpkdjcaaGreatVH
namespace Go.Proofs.YtfgkecffpkdjcaaGreat
open Go.RowKit Gm Go.Vx
theorem prod_le {α:Type} {f g:α→List Rat} (h:∀ a,dProd (f a)≤dProd (g a)∧nProd (f a)≤nProd (g a)) (l:List α):dProd (l.flatMap f)≤dProd (l.flatMap g)∧nProd (l.flatMap f)≤nProd (l.flatMap g):=by
 induction l with
 | nil=>exact ⟨Nat.le_refl _,Nat.le_refl _⟩
 | cons a l ih=>
   simp only [List.flatMap_cons,dProd_app,nProd_app]
   exact ⟨Nat.mul_le_mul (h a).1 ih.1,Nat.mul_le_mul (h a).2 ih.2⟩
theorem wt_free {p:Prg} {n:Nat} (h:Wt (prgN p) n):Wt (prgN p.free) n:=by
 have e:prgN p.free = p.cols.flatMap (fun c=>colN c.free) ++ p.rows.flatMap rowN:=by
  unfold prgN Prg.free
  rw [List.flatMap_map]
 have hk:=prod_le (f:=fun c:LCol=>colN c.free) (g:=colN) (fun c=>by
  have h1:c.free.cost = 0:=rfl
  have h2:c.free.lo = c.lo:=rfl
  have h3:c.free.up = c.up:=rfl
  simp only [colN,dProd,nProd,h1,h2,h3]
  exact ⟨Nat.mul_le_mul c.cost.den_pos (Nat.le_refl _),Nat.mul_le_mul (show (0:Rat).num.natAbs + 1≤_ by simp) (Nat.le_refl _)⟩) p.cols
 have hd:=h.d
 have hn:=h.n
 unfold prgN at hd hn
 rw [dProd_app] at hd
 rw [nProd_app] at hn
 rw [e]
 exact ⟨by rw [dProd_app];exact Nat.le_trans (Nat.mul_le_mul_right _ hk.1) hd,by rw [nProd_app];exact Nat.le_trans (Nat.mul_le_mul_right _ hk.2) hn⟩
theorem pb_free {p:Prg} {K:Nat} (h:PB p K):PB p.free K:=⟨by rw [free_len];exact h.c,h.r,h.e,h.hK⟩
theorem bel_small {q:Rat} {d:Int} (hq:0 < q) (hd:1≤d):(bel q d).den≤q.den∧(bel q d).num.natAbs≤q.num.natAbs:=by
 have hb:=bel_ok q hd
 by_cases hle:(q.den:Int)≤d
 ·rw [bel_eq (below_self hle).1];exact ⟨Nat.le_refl _,Nat.le_refl _⟩
 ·have h1:(bel q d).den≤q.den:=by have:=hb.2.1;omega
  have h0:0≤bel q d:=hb.2.2 0 (Rat.le_of_lt hq) (by show ((1:Nat):Int)≤d;omega)
  have h2:=hb.1
  rw [Rat.le_iff] at h2
  have h3:0≤(bel q d).num:=Rat.num_nonneg.2 h0
  have h4:0≤q.num:=Rat.num_nonneg.2 (Rat.le_of_lt hq)
  refine ⟨h1,?_⟩
  have h5:q.num * ((bel q d).den:Int)≤q.num * (q.den:Int):=Int.mul_le_mul_of_nonneg_left (by omega) h4
  have h6:(bel q d).num≤q.num:=Int.le_of_mul_le_mul_right (Int.le_trans h2 h5) (by have:=q.den_pos;omega)
  omega
theorem abv_bel {q:Rat} {d:Int} (hd:1≤d):abv q d = -(bel (-q) d):=abv_eq (bel_ok (-q) hd).neg
theorem cand_small (q:Rat) {d:Int} (hd:1≤d):(cand q d).den≤q.den∧(cand q d).num.natAbs≤q.num.natAbs:=by
 unfold cand
 split
 ·rename_i h;exact bel_small h hd
 ·split
  ·rename_i h
   rw [abv_bel hd,Rat.neg_num,Rat.neg_den,Int.natAbs_neg]
   have:=bel_small (q:=-q) (by grind) hd
   rw [Rat.neg_num,Rat.neg_den,Int.natAbs_neg] at this
   exact this
  ·exact ⟨q.den_pos,by simp⟩
theorem wt_cand {y:List Rat} {n:Nat} {d:Int} (hd:1≤d) (h:Wt y n):Wt (candL y d) n:=by
 have e:candL y d = y.flatMap fun q=>[cand q d]:=by unfold candL;rw [List.map_eq_flatMap]
 have e2:y.flatMap (fun q=>[q]) = y:=by rw [← List.map_eq_flatMap];simp
 have hk:=prod_le (f:=fun q=>[cand q d]) (g:=fun q=>[q]) (fun q=>by
  simp only [dProd,nProd,Nat.mul_one]
  have:=cand_small q hd
  exact ⟨this.1,by omega⟩) y
 rw [e2] at hk
 rw [e]
 exact ⟨Nat.le_trans hk.1 h.d,Nat.le_trans hk.2 h.n⟩
theorem PB.up {p:Prg} {K L:Nat} (h:PB p K) (hL:L≤16777216):PB p L:=⟨h.c,h.r,h.e,hL⟩
theorem sh_of {p:Prg} {y:List Rat} {a b K:Nat} (hb:PB p K) (hp:Wt (prgN p) a) (hy:Wt y b) (hl:y.length≤1048576) (hK:K≤1048576) (h1:1≤K) (hz:∀ j,Sz (rg y j) K) (hN:a + b≤8388608):SH p y K (6 * (a + b) + 3):=
 ⟨hl,hK,h1,hz,fun i=>py_of (hb.up (by omega)) (hp.app (wt_cand (pw_pos i) hy)) hN⟩
end Go.Proofs.YtfgkecffpkdjcaaGreat
