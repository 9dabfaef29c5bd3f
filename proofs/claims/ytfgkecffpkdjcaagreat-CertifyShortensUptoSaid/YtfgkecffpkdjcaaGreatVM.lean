/- Reference 12: Free, Infeasible, Solution; help.First, by the executor. -/
import Derived.Test.YtfgkecffpkdjcaaGreatVI
import Derived.Test.YtfgkecffpkdjcaaGreatVG
namespace Go.Proofs.YtfgkecffpkdjcaaGreat
open Go.RowKit Gm Go.Vx
set_option maxRecDepth 100000
theorem prod_pos_app (l m:List Rat):dProd l≤dProd (l ++ m)∧nProd l≤nProd (l ++ m):=by
 rw [dProd_app,nProd_app]
 have h1:=Nat.mul_le_mul_left (dProd l) (dProd_pos m)
 have h2:=Nat.mul_le_mul_left (nProd l) (nProd_pos m)
 omega
theorem wt_take {x:List Rat} {n:Nat} (h:Wt x n) (k:Nat):Wt (x.take k) n:=by
 have h1:=prod_pos_app (x.take k) (x.drop k)
 rw [List.take_append_drop] at h1
 exact ⟨Nat.le_trans h1.1 h.d,Nat.le_trans h1.2 h.n⟩
theorem rg_take {x:List Rat} {k j:Nat} (h:j < k):rg (x.take k) j = rg x j:=by
 unfold rg;simp only [List.getD_eq_getElem?_getD];rw [List.getElem?_take_of_lt h]
set_option smartUnfolding false in
theorem first_x (x:List Rat) (K:Nat):fnOk ⟨TT,specsOf ([]:List (PSpec Tryz.prog))⟩ Tryz.f35 [rlAv x K,.val (.int .i64 20)] (rlAv (x.take 20) K):=by
 (repeat((conv=>whnf);refine aig ?_))<;>try(conv=>whnf)
 refine And.intro (fun h1=>?_) (fun h1=>?_)
 ·have h2:(20:Int) < x.length:=of_decide_eq_true h1
  (repeat((conv=>whnf);refine aig ?_))<;>try(conv=>whnf)
  all_goals(repeat' first|exact ayg|apply And.intro|exact azg|fail)
  all_goals first | exact fun i hi=>And.intro (And.intro (rg_take (by simp at hi;omega)).symm (Nat.le_refl K)) True.intro | (rw [List.length_take];show (20:Nat) = _;omega) | (trace_state;sorry)
 ·have h2:¬ (20:Int) < x.length:=of_decide_eq_false h1
  (repeat((conv=>whnf);refine aig ?_))<;>try(conv=>whnf)
  all_goals(repeat' first|exact ayg|apply And.intro|exact azg|fail)
  all_goals first | exact fun i hi=>And.intro (And.intro (rg_take (by simp at hi;omega)).symm (Nat.le_refl K)) True.intro | (rw [List.length_take];omega) | (trace_state;sorry)
noncomputable def first_s:PSpec Tryz.prog:=⟨35,ghSpec (List Rat × Nat) (fun | (c0,c1)=>[rlAv c0 c1,.val (.int .i64 20)]) (fun | (_,c1)=>0≤c1) (fun | (c0,c1)=>rlAv (c0.take 20) c1),ghSpec_ok (fn:=Tryz.f35) (ctx_ok TT_ok ([]:List (PSpec Tryz.prog))) mixed_ok (by kernel_rfl) (fun | (c0,c1),hp=>first_x c0 c1),by kernel_rfl⟩
end Go.Proofs.YtfgkecffpkdjcaaGreat
