/- References 06 and 11 by the executor. -/
import Derived.Test.YtfgkecffpkdjcaaGreatVL
namespace Go.Proofs.YtfgkecffpkdjcaaGreat
open Go.RowKit Gm Go.Vx
set_option smartUnfolding false in
set_option maxRecDepth 100000 in
theorem wcr_x (c:LCol) (K:Nat) (hK:K≤134217728):fnOk ⟨TT,specsOf [rRCmp_s]⟩ Tryz.f43 [.agg (colC c K)] (.val (.bool (pb (Crossed c)))):=by
 obtain ⟨cost,hl,lo,hu,up⟩:=c
 repeat' (first|(refine And.intro (fun _=>?_) (fun _=>?_))|((conv=>whnf);refine alg ?_))
 all_goals (try(conv=>whnf))
 all_goals (refine congrArg Value.bool (pb_of ?_).symm)
 all_goals (simp_all [Crossed,cmpR_gt])
set_option maxRecDepth 100000 in
noncomputable def wcr_s:PSpec Tryz.prog:=⟨43,ghSpec (LCol × Nat) (fun | (c0,c1)=>[.agg (colC c0 c1)]) (fun | (_,c1)=>c1≤134217728) (fun | (c0,_)=>.val (.bool (pb (Crossed c0)))),ghSpec_ok (fn:=Tryz.f43) (ctx_ok TT_ok [rRCmp_s]) mixed_ok (by kernel_rfl) (fun | (c0,c1),hp=>wcr_x c0 c1 hp),by kernel_rfl⟩
end Go.Proofs.YtfgkecffpkdjcaaGreat
