/- Reference 12 by the executor: AtLeast, Optimal. -/
import Derived.Test.YtfgkecffpkdjcaaGreatVF
import Derived.Test.YtfgkecffpkdjcaaGreatVOB
namespace Go.Proofs.YtfgkecffpkdjcaaGreat
open Go.RowKit Gm Go.Vx
set_option maxRecDepth 100000
set_option smartUnfolding false in
theorem watl_x (p:Prg) (y:List Rat) (v:Rat) (K M:Nat) (hy:PY p y K M):fnOk ⟨TT,specsOf [wbnd_s,rRCmp_s]⟩ Tryz.f112 [prgAv p K,rlAv y K,rAv v K] (.val (.bool (pb (AtL p y v)))):=by
 have b4:=hy.b.hK
 have b5:=hy.hM
 by_cases hb:BndOk p y
 ·(repeat((conv=>whnf);refine ajg ?_))<;>try(conv=>whnf)
  refine ⟨((((p,y),K),M),true),⟨⟨hy,by simpa using hb⟩,And.intro (prg_fit p (Nat.le_refl K)) (And.intro (rl_fit y (Nat.le_refl K)) True.intro)⟩,?_⟩
  (repeat((conv=>whnf);refine ajg ?_))<;>try(conv=>whnf)
  refine congrArg Value.bool ((dge _ _).trans (pb_congr ⟨fun h=>⟨hb,h⟩,fun h=>h.2⟩))
 ·(repeat((conv=>whnf);refine ajg ?_))<;>try(conv=>whnf)
  refine ⟨((((p,y),K),M),false),⟨⟨hy,by simpa using hb⟩,And.intro (prg_fit p (Nat.le_refl K)) (And.intro (rl_fit y (Nat.le_refl K)) True.intro)⟩,?_⟩
  (repeat((conv=>whnf);refine ajg ?_))<;>try(conv=>whnf)
  exact congrArg Value.bool (pb_f.2 fun h=>hb h.1).symm
noncomputable def watl_s:PSpec Tryz.prog:=⟨112,ghSpec ((((Prg × List Rat) × Rat) × Nat) × Nat) (fun | ((((c0,c1),c2),c3),_)=>[prgAv c0 c3,rlAv c1 c3,rAv c2 c3]) (fun | ((((c0,c1),_),c3),c4)=>PY c0 c1 c3 c4) (fun | ((((c0,c1),c2),_),_)=>.val (.bool (pb (AtL c0 c1 c2)))),ghSpec_ok (fn:=Tryz.f112) (ctx_ok TT_ok [wbnd_s,rRCmp_s]) mixed_ok (by kernel_rfl) (fun | ((((c0,c1),c2),c3),c4),hp=>watl_x c0 c1 c2 c3 c4 hp),by kernel_rfl⟩
end Go.Proofs.YtfgkecffpkdjcaaGreat
