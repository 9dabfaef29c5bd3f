/- The sizes of sums over a program's numbers. -/
import Derived.Test.YtfgkecffpkdjcaaGreatOL
import Derived.Test.YtfgkecffpkdjcaaGreatVL
namespace Go.Proofs.YtfgkecffpkdjcaaGreat
open Go.RowKit Gm Go.Vx
def colN (c:LCol):List Rat:=[c.cost,c.lo,c.up]
def rowN (r:LRow):List Rat:=r.rhs :: r.es.map (·.2)
def prgN (p:Prg):List Rat:=p.cols.flatMap colN ++ p.rows.flatMap rowN
theorem cl_mem {l:List Rat} {q:Rat} (h:q ∈ l∨q = 0):Cl (dProd l) (dProd l * nProd l) 1 1 q:=by
 rcases h with h | h
 ·exact mem_cl h
 ·rw [h];exact Cl.zero _ _ _ _
theorem getD_or {α:Type} (l:List α) (j:Nat) (d:α):l.getD j d ∈ l∨l.getD j d = d:=by
 rw [List.getD_eq_getElem?_getD]
 by_cases h:j < l.length
 ·rw [List.getElem?_eq_getElem h];exact .inl (List.getElem_mem h)
 ·rw [List.getElem?_eq_none (by omega)];exact .inr rfl
theorem pin_of {p:Prg} {l:List Rat} (h:∀ q,q ∈ prgN p→q ∈ l):PIn (dProd l) (dProd l * nProd l) p:=by
 have hc:∀ j q,q ∈ colN (p.col j)→q ∈ l∨q = 0:=fun j q hq=>by
  rcases getD_or p.cols j colZ with h1 | h1
  ·exact .inl (h q (List.mem_append.2 (.inl (List.mem_flatMap.2 ⟨_,h1,hq⟩))))
  ·unfold Prg.col at hq;rw [h1] at hq
   right
   simp [colN,colZ] at hq;exact hq
 have hr:∀ i q,q ∈ rowN (p.row i)→q ∈ l∨q = 0:=fun i q hq=>by
  rcases getD_or p.rows i rowZ with h1 | h1
  ·exact .inl (h q (List.mem_append.2 (.inr (List.mem_flatMap.2 ⟨_,h1,hq⟩))))
  ·unfold Prg.row at hq;rw [h1] at hq
   right
   simp [rowN,rowZ] at hq;exact hq
 refine ⟨fun j=>cl_mem (hc j _ (by simp [colN])),fun j=>cl_mem (hc j _ (by simp [colN])),fun j=>cl_mem (hc j _ (by simp [colN])),fun i=>cl_mem (hr i _ (by simp [rowN])),fun i k=>?_⟩
 rcases getD_or (p.row i).es k (0,0) with h1 | h1
 ·exact cl_mem (hr i _ (by unfold rowN LRow.vl;exact List.mem_cons_of_mem _ (List.mem_map.2 ⟨_,h1,rfl⟩)))
 ·unfold LRow.vl;rw [h1];exact Cl.zero _ _ _ _
theorem xin_of {x l:List Rat} (h:∀ q,q ∈ x→q ∈ l):XIn (dProd l) (dProd l * nProd l) x:=fun j=>by
 rcases getD_or x j 0 with h1 | h1
 ·exact cl_mem (.inl (h _ h1))
 ·exact cl_mem (.inr h1)
theorem _root_.Gm.Cl.sz {l:List Rat} {N d c:Nat} {q:Rat} (hw:Wt l N) (hc:c < Ba ^ 3) (h:Cl (dProd l) (dProd l * nProd l) d c q):Sz q (2 * N * d + 3):=by
 obtain ⟨n,rfl,hn⟩:=h
 have hD:dProd l ^ d≤Ba ^ (N * d):=by rw [Nat.pow_mul];exact Nat.pow_le_pow_left hw.d d
 have hE:(dProd l * nProd l) ^ d≤Ba ^ (2 * N * d):=by
  have h1:dProd l * nProd l≤Ba ^ (2 * N):=by rw [Nat.two_mul,Nat.pow_add];exact Nat.mul_le_mul hw.d hw.n
  rw [Nat.pow_mul];exact Nat.pow_le_pow_left h1 d
 have hpos:0 < Ba ^ (2 * N * d):=Nat.pow_pos Ba_pos
 constructor
 ·refine limbs_length_lt (Nat.lt_of_le_of_lt (mkRat_num_le _ _) (Nat.lt_of_le_of_lt hn ?_))
  rw [Nat.add_comm,Nat.pow_add]
  exact Nat.lt_of_le_of_lt (Nat.mul_le_mul_left c hE) (Nat.mul_lt_mul_of_pos_right hc hpos)
 ·have h0:dProd l ^ d≠0:=by have:=Nat.pow_pos (n:=d) (show 0 < dProd l from dProd_pos l);omega
  refine limbs_length_lt (Nat.lt_of_le_of_lt (mkRat_den_le _ h0) (Nat.lt_of_le_of_lt hD ?_))
  exact Nat.pow_lt_pow_right (by rw [Ba_eq];decide) (by have:N * d≤2 * N * d:=Nat.mul_le_mul_right d (by omega);omega)
theorem px_of {p:Prg} {x:List Rat} {N K:Nat} (hb:PB p K) (hw:Wt (prgN p ++ x) N) (hN:N≤8388608):PX p x K (6 * N + 3):=by
 have hp:=pin_of (p:=p) (l:=prgN p ++ x) fun q hq=>List.mem_append.2 (.inl hq)
 have hx:=xin_of (x:=x) (l:=prgN p ++ x) fun q hq=>List.mem_append.2 (.inr hq)
 have b1:=hb.c
 have hB3:1048576 < Ba ^ 3:=by rw [Ba_eq];decide
 refine ⟨hb,by omega,by omega,fun n hn=>?_,fun i n hn=>?_⟩
 ·exact ((osum_cl hp hx n).sz hw (by omega)).mono (by omega)
 ·exact ((asum_cl (hp.vl i) hx n).sz hw (by have:=hb.e i;omega)).mono (by omega)
theorem py_of {p:Prg} {y:List Rat} {N K:Nat} (hb:PB p K) (hw:Wt (prgN p ++ y) N) (hN:N≤8388608):PY p y K (6 * N + 3):=by
 have hp:=pin_of (p:=p) (l:=prgN p ++ y) fun q hq=>List.mem_append.2 (.inl hq)
 have hy:=xin_of (x:=y) (l:=prgN p ++ y) fun q hq=>List.mem_append.2 (.inr hq)
 have b1:=hb.c
 have b2:=hb.r
 have hD:=dProd_pos (prgN p ++ y)
 have hE:dProd (prgN p ++ y)≤dProd (prgN p ++ y) * nProd (prgN p ++ y):=by
  have:=Nat.mul_le_mul_left (dProd (prgN p ++ y)) (nProd_pos (prgN p ++ y));omega
 have hB3:1 + 1048576 + 1048576 * (1 + 1048576 * 1048576 + 1048576) < Ba ^ 3:=by rw [Ba_eq];decide
 have hm:∀ i,i≤p.rows.length→1 + i * 1048576≤1 + 1048576 * 1048576:=fun i hi=>by omega
 refine ⟨hb,by omega,by omega,fun i j hi=>?_,fun i k j hi hk=>?_,fun n hn=>?_,fun n hn=>?_⟩
 ·exact ((redR_cl hp hy hD hE hb.e i j).sz hw (by omega)).mono (by omega)
 ·have:=hb.e i
  exact ((redEn_cl hp hy hD hE hb.e i k j).sz hw (by omega)).mono (by omega)
 ·exact ((yrhs_cl hp hy n).sz hw (by omega)).mono (by omega)
 ·have h1:n * (1 + p.rows.length * 1048576)≤1048576 * (1 + 1048576 * 1048576):=Nat.mul_le_mul (by omega) (by omega)
  exact ((bsum_cl hp hy hD hE hb.e n).sz hw (by omega)).mono (by omega)
end Go.Proofs.YtfgkecffpkdjcaaGreat
