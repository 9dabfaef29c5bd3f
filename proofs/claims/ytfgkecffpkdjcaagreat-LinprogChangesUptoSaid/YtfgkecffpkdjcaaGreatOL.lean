/- How lists and structs that came in are opened, for the executor; the sizes of the numbers in them. -/
import Derived.Test.YtfgkecffpkdjcaaGreatOpenR
import Derived.Test.YtfgkecffpkdjcaaGreatVC
import Derived.Test.YtfgkecffpkdjcaaGreatLP
import Derived.Deep.Slices
namespace Go.Proofs.YtfgkecffpkdjcaaGreat
open Go.ChangeShapes Go.WideShapes Go.ChangeAt Go.RowKit Go.Joins Gm Go.Vx
structure Wt (l:List Rat) (n:Nat):Prop where
 d:dProd l≤Ba ^ n
 n:nProd l≤Ba ^ n
theorem dProd_app (l m:List Rat):dProd (l ++ m) = dProd l * dProd m:=by
 induction l with
 | nil=>simp [dProd]
 | cons q l ih=>simp only [List.cons_append,dProd,ih,Nat.mul_assoc]
theorem nProd_app (l m:List Rat):nProd (l ++ m) = nProd l * nProd m:=by
 induction l with
 | nil=>simp [nProd]
 | cons q l ih=>simp only [List.cons_append,nProd,ih,Nat.mul_assoc]
theorem Wt.nil (n:Nat):Wt [] n:=⟨Nat.pow_pos Ba_pos,Nat.pow_pos Ba_pos⟩
theorem Wt.app {l m:List Rat} {a b:Nat} (h:Wt l a) (k:Wt m b):Wt (l ++ m) (a + b):=
 ⟨by rw [dProd_app,Nat.pow_add];exact Nat.mul_le_mul h.d k.d,by rw [nProd_app,Nat.pow_add];exact Nat.mul_le_mul h.n k.n⟩
theorem Wt.mono {l:List Rat} {a b:Nat} (h:Wt l a) (k:a≤b):Wt l b:=⟨Nat.le_trans h.d (Nat.pow_le_pow_right Ba_pos k),Nat.le_trans h.n (Nat.pow_le_pow_right Ba_pos k)⟩
theorem Wt.one {q:Rat} {n:Nat} (h1:q.den≤Ba ^ n) (h2:q.num.natAbs < Ba ^ n):Wt [q] n:=
 ⟨by simp only [dProd,Nat.mul_one];exact h1,by simp only [nProd,Nat.mul_one];exact h2⟩
theorem wt_flat {α:Type} {nums:α→List Rat} {f:Nat→α} {g:Nat→Nat}:∀ {n:Nat},(∀ i,i < n→Wt (nums (f i)) (g i))→Wt (((List.range n).map f).flatMap nums) (((List.range n).map g).sum)
 | 0,_=>Wt.nil _
 | n + 1,h=>by
   rw [List.range_succ,List.map_append,List.map_append,List.flatMap_append,List.sum_append]
   refine (wt_flat fun i hi=>h i (by omega)).app ?_
   simpa using h n (by omega)
theorem bulk_sum {H:Type} (l:List (DataW H)):Rows.uptoBulkAll l = (l.map Rows.uptoBulk).sum:=by
 induction l with
 | nil=>rfl
 | cons d l ih=>simp only [Rows.uptoBulkAll,List.map_cons,List.sum_cons,ih]
theorem bulk_mem {H:Type} {l:List (DataW H)} {d:DataW H} (h:d ∈ l):Rows.uptoBulk d≤Rows.uptoBulkAll l:=by
 induction l with
 | nil=>cases h
 | cons e l ih=>
   simp only [Rows.uptoBulkAll]
   rcases List.mem_cons.1 h with h | h
   ·subst h;omega
   ·have:=ih h;omega
structure Opn (W:World) (a:Av) (cs:List Value):Prop where
 r:Rob (fun _=>False) W a cs
 o:∀ u ∈ cs,u.oneCell' = true
section
variable {H:Type} {enc:TypeId × Value→H} {W:World}
theorem open_list {α:Type} [Inhabited α] {t e:TypeId} {sz B:Nat} (hs:0 < sz) (ht:Tryz.prog.underlying t = some (.slice e)) (hc:Tryz.prog.cellsOf e = sz) (nums:α→List Rat) (av:α→Av) (dflt:α) (Q:α→Prop)
  (el:∀ (fuel:Nat) (cs:List Value) (y:DataW H × List MemPlace),DataW.trod enc Tryz.prog W 0 (fun _=>true) true fuel e cs = some y→Rows.uptoBulk y.1≤B→∃ a:α,Opn W (av a) cs∧Wt (nums a) (Rows.uptoBulk y.1)∧Q a)
  {fuel:Nat} {v:Value} {y:DataW H × List MemPlace} (h:DataW.trod enc Tryz.prog W 0 (fun _=>true) true fuel t [v] = some y) (hB:Rows.uptoBulk y.1≤B) :
  ∃ l:List α,Opn W (.cons (.list sz l.length (fun i=>av (l.getD i dflt))) .nil) [v]∧Wt (l.flatMap nums) (Rows.uptoBulk y.1)∧l.length≤Rows.uptoBulk y.1∧∀ a ∈ l,Q a:=by
 rcases Deep.open_slice ht h with ⟨hcs,hx⟩ | ⟨a,len,cap,m,n,D,Pl,hcs,_,hl,hm,hmm,hx,hel⟩
 ·simp at hcs
  subst hcs
  refine ⟨[],⟨?_,by simp [Value.oneCell']⟩,Wt.nil _,Nat.zero_le _,fun a ha=>by cases ha⟩
  exact fun w' hg=>⟨_,[],(List.append_nil _).symm,Rob.lst_mk (own:=fun _=>False) ⟨Nat.zero_le _,by omega⟩ (fun h0=>absurd h0 (Nat.lt_irrefl 0)) w' hg,rfl⟩
 ·simp at hcs
  subst hcs
  rw [hc] at hel
  have hm':m = cap:=by simpa using hmm
  subst hm'
  have hb0:Rows.uptoBulkAll ((List.range len).map D)≤Rows.uptoBulk y.1:=by rw [hx];simp only [Rows.uptoBulk];omega
  have hbi:∀ i,i < len→Rows.uptoBulk (D i)≤B:=fun i hi=>Nat.le_trans (bulk_mem (List.mem_map.2 ⟨i,List.mem_range.2 hi,rfl⟩)) (Nat.le_trans hb0 hB)
  obtain ⟨f,hf⟩:=Deep.choose_lt (α:=α) (n:=len) (p:=fun i a'=>∃ cs',W.cells? 0 (a.add (i * sz)) sz = some cs'∧Opn W (av a') cs'∧Wt (nums a') (Rows.uptoBulk (D i))∧Q a') fun i hi=>by
   obtain ⟨cs',h1,h2⟩:=hel i (by omega)
   obtain ⟨a',h3,h4⟩:=el _ _ _ h2 (hbi i hi)
   exact ⟨a',cs',h1,h3,h4⟩
  have hlen:((List.range len).map f).length = len:=by simp
  have hget:∀ i,i < len→((List.range len).map f).getD i dflt = f i:=fun i hi=>by
   rw [List.getD_eq_getElem?_getD,List.getElem?_map,List.getElem?_range hi];rfl
  refine ⟨(List.range len).map f,⟨?_,by simp [Value.oneCell']⟩,?_,?_,?_⟩
  ·rw [hlen]
   refine fun w' hg=>⟨_,[],(List.append_nil _).symm,Rob.lst_mk (own:=fun _=>False) ⟨hl,by simpa [maxLen] using hm⟩ (fun h0=>?_) w' hg,rfl⟩
   obtain ⟨cs0,h1,_⟩:=hf 0 h0
   obtain ⟨_,l1,c1⟩:=World.cells?_some h1
   have hcell0:∃ u,W.cell? (a.add (0 * sz)) = some u:=by
    have:=c1 0 hs
    rw [List.getElem?_eq_getElem (by omega),Nat.zero_mul,Deep.add_add] at this
    rw [Nat.zero_mul]
    exact ⟨_,this⟩
   obtain ⟨b,off,spot⟩:=a
   obtain ⟨u0,hu0⟩:=hcell0
   have hspot:spot = none:=by simpa [Addr.add] using World.cell?_spot hu0
   subst hspot
   have hadd:∀ k,(Addr.mk b off none).add k = ⟨b,off + k,none⟩:=fun k=>by
    unfold Addr.add
    split
    ·next h0=>rw [h0];rfl
    ·rfl
   have hcell:∀ i,i < len→∀ k,k < sz→∃ u cs',W.cells? 0 ((Addr.mk b off none).add (i * sz)) sz = some cs'∧cs'[k]? = some u∧cs'.length = sz∧W.cell? ⟨b,off + (i * sz + k),none⟩ = some u∧u.oneCell' = true:=fun i hi k hk=>by
    obtain ⟨cs',h2,h3,_⟩:=hf i hi
    obtain ⟨_,l2,c2⟩:=World.cells?_some h2
    have h4:=c2 k hk
    rw [Deep.add_add,hadd,List.getElem?_eq_getElem (by omega)] at h4
    exact ⟨_,cs',h2,List.getElem?_eq_getElem (by omega),l2,h4,h3.o _ (List.getElem_mem _)⟩
   refine ⟨b,off,(List.range (len * sz)).map fun j=>(W.cell? ⟨b,off + j,none⟩).getD (.bool false),rfl,World.block_lt_of_cell? W _ (by rw [hadd] at hu0;exact hu0),by simp,fun _ h=>h,?_,?_,?_⟩
   ·intro j u hj
    rw [List.getElem?_map,Option.map_eq_some_iff] at hj
    obtain ⟨j',h2,h3⟩:=hj
    obtain ⟨hjl,rfl⟩:j < len * sz∧j = j':=by
     obtain ⟨h4,h5⟩:=List.getElem?_eq_some_iff.1 h2
     simp at h4 h5
     exact ⟨h4,h5⟩
    obtain ⟨u',_,_,_,_,h5,_⟩:=hcell (j / sz) (Nat.div_lt_of_lt_mul (by rw [Nat.mul_comm];exact hjl)) (j % sz) (Nat.mod_lt _ hs)
    rw [show j / sz * sz + j % sz = j from Nat.div_add_mod' j sz] at h5
    rw [h5] at h3 ⊢
    exact congrArg some h3
   ·intro u hu
    obtain ⟨j,h2,rfl⟩:=List.mem_map.1 hu
    have hjl:=List.mem_range.1 h2
    obtain ⟨u',_,_,_,_,h5,h6⟩:=hcell (j / sz) (Nat.div_lt_of_lt_mul (by rw [Nat.mul_comm];exact hjl)) (j % sz) (Nat.mod_lt _ hs)
    rw [show j / sz * sz + j % sz = j from Nat.div_add_mod' j sz] at h5
    rw [h5];exact h6
   ·intro i hi
    rw [hget i hi]
    obtain ⟨cs',h2,h3,_⟩:=hf i hi
    have e:seg ((List.range (len * sz)).map fun j=>(W.cell? ⟨b,off + j,none⟩).getD (.bool false)) i sz = cs':=by
     obtain ⟨_,l2,c2⟩:=World.cells?_some h2
     have hil:i * sz + sz≤len * sz:=by rw [← Nat.succ_mul];exact Nat.mul_le_mul_right _ hi
     unfold seg
     apply List.ext_getElem?
     intro k
     by_cases hk:k < sz
     ·have h4:=c2 k hk
      rw [Deep.add_add,hadd] at h4
      rw [List.getElem?_take_of_lt hk,List.getElem?_drop,List.getElem?_map,List.getElem?_range (by omega),← h4]
      obtain ⟨u',_,_,_,_,h5,_⟩:=hcell i hi k hk
      have e5:W.cell? ⟨b,off + (i * sz + k),none⟩ = some u':=h5
      show some ((W.cell? ⟨b,off + (i * sz + k),none⟩).getD (.bool false)) = W.cell? ⟨b,off + (i * sz + k),none⟩
      rw [e5];rfl
     ·rw [List.getElem?_eq_none (by simp;omega),List.getElem?_eq_none (by omega)]
    rw [e];exact h3.r
  ·refine (wt_flat (g:=fun i=>Rows.uptoBulk (D i)) fun i hi=>(hf i hi).elim fun _ h=>h.2.2.1).mono ?_
   rw [bulk_sum,List.map_map] at hb0
   exact hb0
  ·rw [hlen]
   have:=bulk_length ((List.range len).map D)
   simp at this
   omega
  ·intro a' ha
   obtain ⟨i,hi,rfl⟩:=List.mem_map.1 ha
   exact (hf i (List.mem_range.1 hi)).elim fun _ h=>h.2.2.2
end
end Go.Proofs.YtfgkecffpkdjcaaGreat
