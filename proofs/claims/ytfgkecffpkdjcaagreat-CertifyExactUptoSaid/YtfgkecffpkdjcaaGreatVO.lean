/- Reference 11 by the executor: Feasible. -/
import Derived.Test.YtfgkecffpkdjcaaGreatVN
namespace Go.Proofs.YtfgkecffpkdjcaaGreat
open Go.RowKit Gm Go.Vx
theorem made_app {f:Nat→Rat} {M k:Nat} {q:Rat} {M':Nat} (hq:q = f k) (hM:M'≤M∨Sz q M):∀ i,i < k + 1→fitC (madeC f M i) (if i < k then madeC f M i else nthp .nil [.cons (.ratC q M') .nil] (i - k)):=by
 intro i hi
 by_cases h:i < k
 ·rw [if_pos h];exact And.intro (And.intro rfl (.inl (Nat.le_refl _))) True.intro
 ·have e:i = k:=by omega
  subst e
  rw [if_neg h,Nat.sub_self]
  exact And.intro (And.intro hq hM) True.intro
theorem sone (r:Rat):(sgn r.num == 1) = pb (0 < r):=by
 rw [← sgt,Bool.eq_iff_iff,beq_iff_eq,decide_eq_true_iff]
 unfold sgn;split <;> (try split) <;> omega
theorem smone (r:Rat):(sgn r.num == -1) = pb (r < 0):=by
 rw [← slt,Bool.eq_iff_iff,beq_iff_eq,decide_eq_true_iff]
 unfold sgn;split <;> (try split) <;> omega
set_option smartUnfolding false in
set_option maxRecDepth 100000 in
theorem wfea_x (p:Prg) (x:List Rat) (K M:Nat) (hx:PX p x K M):fnOk ⟨TT,specsOf [wvalid_s,wvio_s]⟩ Tryz.f50 [prgAv p K,rlAv x K] (.val (.bool (pb (Feas p x)))):=by
 have hf:pb (Feas p x) = pb (errC p x.length p.cols.length = 0∧vcols p x p.cols.length = []∧vrows p x p.rows.length = []):=pb_congr feas_iff
 (repeat((conv=>whnf);refine ajg ?_))<;>try(conv=>whnf)
 refine ⟨(p,K),⟨hx.b,And.intro (prg_fit p (Nat.le_refl K)) True.intro⟩,?_⟩
 (repeat((conv=>whnf);refine ajg ?_))<;>try(conv=>whnf)
 refine And.intro (fun h1=>?_) (fun h1=>?_)
 ·have he:errV p≠0:=by simpa using h1
  (repeat((conv=>whnf);refine ajg ?_))<;>try(conv=>whnf)
  exact congrArg Value.bool (pb_f.2 fun h=>he (errV_zero.2 h.v)).symm
 have hv:Vld p:=errV_zero.1 (by simpa using h1)
 (repeat((conv=>whnf);refine ajg ?_))<;>try(conv=>whnf)
 refine And.intro (fun h2=>?_) (fun h2=>?_)
 ·(repeat((conv=>whnf);refine ajg ?_))<;>try(conv=>whnf)
  exact congrArg Value.bool (pb_f.2 fun h=>by have:=h.n;rw [bne_iff_ne] at h2;exact h2 (congrArg _ this)).symm
 have hlen:x.length = p.cols.length:=by have:=bne_eq_false_iff_eq.1 h2;exact Int.ofNat.inj this
 have he:errC p x.length p.cols.length = 0:=errC_zero.2 ⟨hv,hlen⟩
 (repeat((conv=>whnf);refine ajg ?_))<;>try(conv=>whnf)
 refine ⟨(((p,x),K),M),⟨⟨hx,hv,hlen⟩,And.intro (prg_fit p (Nat.le_refl K)) (And.intro (rl_fit x (Nat.le_refl K)) True.intro)⟩,?_⟩
 (repeat((conv=>whnf);refine ajg ?_))<;>try(conv=>whnf)
 refine And.intro (fun h1=>?_) (fun h1=>?_)
 ·have h2:vcols p x p.cols.length = []:=by simpa using h1
  (repeat((conv=>whnf);refine ajg ?_))<;>try(conv=>whnf)
  refine congrArg Value.bool ((pb_of ?_).symm.trans hf.symm)
  simp [he,h2]
 ·have h2:vcols p x p.cols.length≠[]:=by simpa using h1
  (repeat((conv=>whnf);refine ajg ?_))<;>try(conv=>whnf)
  exact congrArg Value.bool ((pb_f.2 fun h=>h2 h.2.1).symm.trans hf.symm)
set_option maxRecDepth 100000 in
noncomputable def wfea_s:PSpec Tryz.prog:=⟨50,ghSpec (((Prg × List Rat) × Nat) × Nat) (fun | (((c0,c1),c2),_)=>[prgAv c0 c2,rlAv c1 c2]) (fun | (((c0,c1),c2),c3)=>PX c0 c1 c2 c3) (fun | (((c0,c1),_),_)=>.val (.bool (pb (Feas c0 c1)))),ghSpec_ok (fn:=Tryz.f50) (ctx_ok TT_ok [wvalid_s,wvio_s]) mixed_ok (by kernel_rfl) (fun | (((c0,c1),c2),c3),hp=>wfea_x c0 c1 c2 c3 hp),by kernel_rfl⟩
end Go.Proofs.YtfgkecffpkdjcaaGreat
