/- Reference 12: Free, Infeasible, Solution; help.First, by the executor. -/
import Derived.Test.YtfgkecffpkdjcaaGreatVI
import Derived.Test.YtfgkecffpkdjcaaGreatVG
namespace Go.Proofs.YtfgkecffpkdjcaaGreat
open Go.RowKit Gm Go.Vx
set_option maxRecDepth 100000
theorem prod_pos_app (l m:List Rat):dProd l≤dProd (l ++ m)∧nProd l≤nProd (l ++ m):=by
 rw [dProd_app,nProd_app]
 have h1:=Nat.mul_le_mul_left (dProd l) (dProd_pos m)
 have h2:=Nat.mul_le_mul_left (nProd l) (nProd_pos m)
 omega
theorem wt_take {x:List Rat} {n:Nat} (h:Wt x n) (k:Nat):Wt (x.take k) n:=by
 have h1:=prod_pos_app (x.take k) (x.drop k)
 rw [List.take_append_drop] at h1
 exact ⟨Nat.le_trans h1.1 h.d,Nat.le_trans h1.2 h.n⟩
theorem rg_take {x:List Rat} {k j:Nat} (h:j < k):rg (x.take k) j = rg x j:=by
 unfold rg;simp only [List.getD_eq_getElem?_getD];rw [List.getElem?_take_of_lt h]
theorem free_push {p:Prg} {K j:Nat} (h:1≤K):∀ i,i < j + 1→fitC (colC (p.col i).free K) (if i < j then colC (p.col i).free K else nthp .nil [.cons (.ratC 0 1) (.cons (.val (.bool (p.col j).hl)) (.cons (.rat (p.col j).lo K) (.cons (.val (.bool (p.col j).hu)) (.cons (.rat (p.col j).up K) .nil))))] (i - j)):=fun i hi=>by
 by_cases hj:i < j
 ·rw [if_pos hj];exact col_fit _ (Nat.le_refl K)
 ·obtain rfl:i = j:=by omega
  rw [if_neg hj,Nat.sub_self]
  exact And.intro (And.intro rfl (.inl h)) (And.intro rfl (And.intro (And.intro rfl (Nat.le_refl K)) (And.intro rfl (And.intro (And.intro rfl (Nat.le_refl K)) True.intro))))
theorem fr_fit {p:Prg} {K j:Nat}:fitC (colC (p.free.col j) K) (colC (p.col j).free K):=by rw [free_col];exact col_fit _ (Nat.le_refl _)
set_option smartUnfolding false in
theorem first_x (x:List Rat) (K:Nat):fnOk ⟨TT,specsOf ([]:List (PSpec Tryz.prog))⟩ Tryz.f35 [rlAv x K,.val (.int .i64 20)] (rlAv (x.take 20) K):=by
 (repeat((conv=>whnf);refine aig ?_))<;>try(conv=>whnf)
 refine And.intro (fun h1=>?_) (fun h1=>?_)
 ·have h2:(20:Int) < x.length:=of_decide_eq_true h1
  (repeat((conv=>whnf);refine aig ?_))<;>try(conv=>whnf)
  all_goals(repeat' first|exact ayg|apply And.intro|exact azg|fail)
  all_goals first | exact fun i hi=>And.intro (And.intro (rg_take (by simp at hi;omega)).symm (Nat.le_refl K)) True.intro | (rw [List.length_take];show (20:Nat) = _;omega) | (trace_state;sorry)
 ·have h2:¬ (20:Int) < x.length:=of_decide_eq_false h1
  (repeat((conv=>whnf);refine aig ?_))<;>try(conv=>whnf)
  all_goals(repeat' first|exact ayg|apply And.intro|exact azg|fail)
  all_goals first | exact fun i hi=>And.intro (And.intro (rg_take (by simp at hi;omega)).symm (Nat.le_refl K)) True.intro | (rw [List.length_take];omega) | (trace_state;sorry)
noncomputable def first_s:PSpec Tryz.prog:=⟨35,ghSpec (List Rat × Nat) (fun | (c0,c1)=>[rlAv c0 c1,.val (.int .i64 20)]) (fun | (_,c1)=>0≤c1) (fun | (c0,c1)=>rlAv (c0.take 20) c1),ghSpec_ok (fn:=Tryz.f35) (ctx_ok TT_ok ([]:List (PSpec Tryz.prog))) mixed_ok (by kernel_rfl) (fun | (c0,c1),hp=>first_x c0 c1),by kernel_rfl⟩
set_option smartUnfolding false in
theorem wfree_x (p:Prg) (K:Nat) (hb:PB p K) (h2:2≤K):fnOk ⟨TT,specsOf [rZero_s]⟩ Tryz.f162 [prgAv p K] (prgAv p.free K):=by
 have b0:=hb.c
 have b4:=hb.hK
 (repeat((conv=>whnf);refine aig ?_))<;>try(conv=>whnf)
 refine ⟨⟨Nat,fun j=>j≤p.cols.length,fun j=>[.slot 4 (.val (.int .i64 (j:Int))),.own 4 61 11 j (fun k=>colC (p.col k).free K),.obj 3 (.cons (.row 4) (.cons (rowsAv p.rows K) .nil))],fun j=>p.cols.length - j,0⟩,0,Nat.zero_le _,?_⟩
 conv=>whnf
 refine And.intro ?_ ?_
 ·all_goals(repeat' first|exact ayg|apply And.intro|exact azg|fail)
  all_goals first | exact fun _ _=>row_fit _ (Nat.le_refl K) | exact free_push (by omega) | exact (free_len p).symm | exact free_len p | exact fun _ _=>fr_fit | (trace_state;sorry)
 conv=>whnf
 rintro j h3
 (repeat((conv=>whnf);refine aig ?_))<;>try(conv=>whnf)
 refine And.intro (fun h5=>?_) (fun h5=>?_)
 ·have h6:(j:Int) < p.cols.length:=of_decide_eq_true h5
  have w1:IntKind.i64.wrap ((j:Int) + 1) = (j:Int) + 1:=w64 (by omega) (by omega)
  (repeat((conv=>whnf);refine aig ?_))<;>try(conv=>whnf)
  refine ⟨j + 1,(show j + 1≤p.cols.length by omega),(show p.cols.length - (j + 1) < p.cols.length - j by omega),?_⟩
  conv=>whnf
  all_goals(repeat' first|exact ayg|apply And.intro|exact azg|fail)
  all_goals first | exact fun _ _=>row_fit _ (Nat.le_refl K) | exact free_push (by omega) | exact (free_len p).symm | exact free_len p | exact fun _ _=>fr_fit | (trace_state;sorry)
 have h6:¬ (j:Int) < p.cols.length:=of_decide_eq_false h5
 obtain rfl:j = p.cols.length:=by omega
 (repeat((conv=>whnf);refine aig ?_))<;>try(conv=>whnf)
 all_goals(repeat' first|exact ayg|apply And.intro|exact azg|fail)
 all_goals first | exact fun _ _=>row_fit _ (Nat.le_refl K) | exact free_push (by omega) | exact (free_len p).symm | exact free_len p | exact fun _ _=>fr_fit | (trace_state;sorry)
noncomputable def wfree_s:PSpec Tryz.prog:=⟨162,ghSpec (Prg × Nat) (fun | (c0,c1)=>[prgAv c0 c1]) (fun | (c0,c1)=>PB c0 c1∧2≤c1) (fun | (c0,c1)=>prgAv c0.free c1),ghSpec_ok (fn:=Tryz.f162) (ctx_ok TT_ok [rZero_s]) mixed_ok (by kernel_rfl) (fun | (c0,c1),hp=>wfree_x c0 c1 hp.1 hp.2),by kernel_rfl⟩
set_option smartUnfolding false in
theorem winf_x (p:Prg) (y:List Rat) (K M:Nat) (hb:PB p K) (hy:PY p.free y K M) (h2:2≤K):fnOk ⟨TT,specsOf [wfree_s,wbnd_s,rRSign_s]⟩ Tryz.f116 [prgAv p K,rlAv y K] (.val (.bool (pb (Infs p y)))):=by
 have b5:=hy.hM
 (repeat((conv=>whnf);refine aig ?_))<;>try(conv=>whnf)
 refine ⟨(p,K),⟨⟨hb,h2⟩,And.intro (prg_fit p (Nat.le_refl K)) True.intro⟩,?_⟩
 by_cases hbo:BndOk p.free y
 ·(repeat((conv=>whnf);refine aig ?_))<;>try(conv=>whnf)
  refine ⟨((((p.free,y),K),M),true),⟨⟨hy,by simpa using hbo⟩,And.intro (prg_fit p.free (Nat.le_refl K)) (And.intro (rl_fit y (Nat.le_refl K)) True.intro)⟩,?_⟩
  (repeat((conv=>whnf);refine aig ?_))<;>try(conv=>whnf)
  exact congrArg Value.bool ((sgt _).trans (pb_congr ⟨fun h=>⟨hbo,h⟩,fun h=>h.2⟩))
 ·(repeat((conv=>whnf);refine aig ?_))<;>try(conv=>whnf)
  refine ⟨((((p.free,y),K),M),false),⟨⟨hy,by simpa using hbo⟩,And.intro (prg_fit p.free (Nat.le_refl K)) (And.intro (rl_fit y (Nat.le_refl K)) True.intro)⟩,?_⟩
  (repeat((conv=>whnf);refine aig ?_))<;>try(conv=>whnf)
  exact congrArg Value.bool (pb_f.2 fun h=>hbo h.1).symm
noncomputable def winf_s:PSpec Tryz.prog:=⟨116,ghSpec (((Prg × List Rat) × Nat) × Nat) (fun | (((c0,c1),c2),_)=>[prgAv c0 c2,rlAv c1 c2]) (fun | (((c0,c1),c2),c3)=>PB c0 c2∧PY c0.free c1 c2 c3∧2≤c2) (fun | (((c0,c1),_),_)=>.val (.bool (pb (Infs c0 c1)))),ghSpec_ok (fn:=Tryz.f116) (ctx_ok TT_ok [wfree_s,wbnd_s,rRSign_s]) mixed_ok (by kernel_rfl) (fun | (((c0,c1),c2),c3),hp=>winf_x c0 c1 c2 c3 hp.1 hp.2.1 hp.2.2),by kernel_rfl⟩
set_option maxHeartbeats 1000000 in
set_option smartUnfolding false in
theorem wsol_x (p:Prg) (s:Int) (v:Rat) (x y r:List Rat) (b c:List Int) (K M:Nat) (hs:PS p x y r K M):fnOk ⟨TT,specsOf [rRSign_s,wopt_s,wobj_s,rRCmp_s,winf_s,wunb_s]⟩ Tryz.f118 [prgAv p K,.agg (solC s v x y r b c K)] (.val (.bool (pb (Sol p s v x y r)))):=by
 have b4:=hs.fx.b.hK
 have b5:=hs.fx.hM
 have hs2:=hs.two
 (repeat((conv=>whnf);refine aig ?_))<;>try(conv=>whnf)
 refine And.intro (fun h1=>?_) (fun h1=>?_)
 ·obtain rfl:s = 1:=eq_of_beq h1
  (repeat((conv=>whnf);refine aig ?_))<;>try(conv=>whnf)
  refine ⟨((((p,x),y),K),M),⟨⟨hs.fx,hs.fy⟩,And.intro (prg_fit p (Nat.le_refl K)) (And.intro (rl_fit x (Nat.le_refl K)) (And.intro (rl_fit y (Nat.le_refl K)) (True.intro)))⟩,?_⟩
  (repeat((conv=>whnf);refine aig ?_))<;>try(conv=>whnf)
  refine And.intro (fun h2=>?_) (fun h2=>?_)
  ·have ho:Opt p x y:=pb_t.1 h2
   (repeat((conv=>whnf);refine aig ?_))<;>try(conv=>whnf)
   refine ⟨(((p,x),K),M),⟨⟨hs.fx,ho.1.n⟩,And.intro (prg_fit p (Nat.le_refl K)) (And.intro (rl_fit x (Nat.le_refl K)) (True.intro))⟩,?_⟩
   have f1:=deq v (obj p x)
   have f2:=@pb_t (v = obj p x)
   have f3:=len0 r
   have f4:=@pb_t (r = [])
   have f5:=@sol1 p v x y r
   repeat' (first|(refine And.intro (fun _=>?_) (fun _=>?_))|((conv=>whnf);refine alg ?_))
   all_goals (try(conv=>whnf))
   all_goals (refine congrArg Value.bool (pb_of ?_).symm)
   all_goals grind
  ·(repeat((conv=>whnf);refine aig ?_))<;>try(conv=>whnf)
   exact congrArg Value.bool (pb_f.2 fun h=>pb_f.1 h2 (sol1.1 h).1).symm
 (repeat((conv=>whnf);refine aig ?_))<;>try(conv=>whnf)
 refine And.intro (fun h2=>?_) (fun h2=>?_)
 ·obtain rfl:s = 2:=eq_of_beq h2
  (repeat((conv=>whnf);refine aig ?_))<;>try(conv=>whnf)
  refine ⟨(((p,y),K),M),⟨⟨hs.fx.b,hs.ff,hs2⟩,And.intro (prg_fit p (Nat.le_refl K)) (And.intro (rl_fit y (Nat.le_refl K)) (True.intro))⟩,?_⟩
  have f1:=seq v
  have f2:=@pb_t (v = 0)
  have f3:=len0 r
  have f4:=@pb_t (r = [])
  have f6:=len0 x
  have f7:=@pb_t (x = [])
  have f8:=@pb_t (Infs p y)
  have f5:=@sol2 p v x y r
  repeat' (first|(refine And.intro (fun _=>?_) (fun _=>?_))|((conv=>whnf);refine alg ?_))
  all_goals (try(conv=>whnf))
  all_goals (refine congrArg Value.bool (pb_of ?_).symm)
  all_goals grind
 (repeat((conv=>whnf);refine aig ?_))<;>try(conv=>whnf)
 refine And.intro (fun h3=>?_) (fun h3=>?_)
 ·obtain rfl:s = 3:=eq_of_beq h3
  (repeat((conv=>whnf);refine aig ?_))<;>try(conv=>whnf)
  refine ⟨((((p,x),r),K),M),⟨⟨hs.fx,hs.fr⟩,And.intro (prg_fit p (Nat.le_refl K)) (And.intro (rl_fit x (Nat.le_refl K)) (And.intro (rl_fit r (Nat.le_refl K)) (True.intro)))⟩,?_⟩
  have f1:=seq v
  have f2:=@pb_t (v = 0)
  have f3:=len0 y
  have f4:=@pb_t (y = [])
  have f8:=@pb_t (Unb p x r)
  have f5:=@sol3 p v x y r
  repeat' (first|(refine And.intro (fun _=>?_) (fun _=>?_))|((conv=>whnf);refine alg ?_))
  all_goals (try(conv=>whnf))
  all_goals (refine congrArg Value.bool (pb_of ?_).symm)
  all_goals grind
 ·(repeat((conv=>whnf);refine aig ?_))<;>try(conv=>whnf)
  exact congrArg Value.bool (pb_f.2 (sol0 (by simpa using h1) (by simpa using h2) (by simpa using h3))).symm
noncomputable def wsol_s:PSpec Tryz.prog:=⟨118,ghSpec (((((((((Prg × Int) × Rat) × List Rat) × List Rat) × List Rat) × List Int) × List Int) × Nat) × Nat) (fun | (((((((((c0,c1),c2),c3),c4),c5),c6),c7),c8),_)=>[prgAv c0 c8,.agg (solC c1 c2 c3 c4 c5 c6 c7 c8)]) (fun | (((((((((c0,_),_),c3),c4),c5),_),_),c8),c9)=>PS c0 c3 c4 c5 c8 c9) (fun | (((((((((c0,c1),c2),c3),c4),c5),_),_),_),_)=>.val (.bool (pb (Sol c0 c1 c2 c3 c4 c5)))),ghSpec_ok (fn:=Tryz.f118) (ctx_ok TT_ok [rRSign_s,wopt_s,wobj_s,rRCmp_s,winf_s,wunb_s]) mixed_ok (by kernel_rfl) (fun | (((((((((c0,c1),c2),c3),c4),c5),c6),c7),c8),c9),hp=>wsol_x c0 c1 c2 c3 c4 c5 c6 c7 c8 c9 hp),by kernel_rfl⟩
end Go.Proofs.YtfgkecffpkdjcaaGreat
