/- CertifyKeepsBound by the executor. -/
import Derived.Test.YtfgkecffpkdjcaaGreatVI
import Derived.Test.YtfgkecffpkdjcaaGreatOC
namespace Go.Proofs.YtfgkecffpkdjcaaGreat
open Go.RowKit Gm Go.Vx
theorem rl_sz {W:World} {y:List Rat} {K:Nat} {v:Value} (h:Rob (fun _=>False) W (rlAv y K) [v]) (h1:1≤K) (j:Nat):Sz (rg y j) K:=by
 by_cases hj:j < y.length
 ·obtain ⟨A,c,_,_,hh⟩:=Rob.lst h
  obtain ⟨b,off,us,_,_,_,_,_,_,hr⟩:=hh (by omega)
  obtain ⟨u1,u2,_,h2,_⟩:=(hr j hj).here
  obtain ⟨_,_,_,_,hi⟩:=h2
  exact hi.sz
 ·have e:rg y j = 0:=by unfold rg;rw [List.getD_eq_getElem?_getD,List.getElem?_eq_none (by omega)];rfl
  have h1':(limbs 1).length = 1:=limbs1_len
  rw [e];exact ⟨by show (limbs 0).length≤K;rw [limbs_zero];exact Nat.zero_le _,by show (limbs 1).length≤K;omega⟩
set_option smartUnfolding false in
set_option maxRecDepth 100000 in
theorem rCanon_x (y:List Rat) (K:Nat) (hl:y.length≤1048576) (hK:K≤134217728):fnOk ⟨TT,specsOf [rRNorm_s]⟩ Tryz.f60 [rlAv y K] (madeAv (rg y) y.length K):=by
 (repeat((conv=>whnf);refine ajg ?_))<;>try(conv=>whnf)
 refine ⟨⟨Nat,fun j=>j≤y.length,fun j=>[.slot 4 (.val (.int .i64 (j:Int))),.own 3 36 3 j (madeC (rg y) K),.slot 3 (.row 3)],fun j=>y.length - j,0⟩,0,Nat.zero_le _,?_⟩
 conv=>whnf
 refine And.intro ?_ ?_
 ·all_goals(repeat' first|exact ayg|apply And.intro|exact azg|fail)
 conv=>whnf
 rintro j h3
 (repeat((conv=>whnf);refine ajg ?_))<;>try(conv=>whnf)
 refine And.intro (fun h5=>?_) (fun h5=>?_)
 ·have h6:(j:Int) < y.length:=of_decide_eq_true h5
  have w1:IntKind.i64.wrap ((j:Int) + 1) = (j:Int) + 1:=w64 (by omega) (by omega)
  (repeat((conv=>whnf);refine ajg ?_))<;>try(conv=>whnf)
  refine ⟨j + 1,(show j + 1≤y.length by omega),(show y.length - (j + 1) < y.length - j by omega),?_⟩
  conv=>whnf
  all_goals(repeat' first|exact ayg|apply And.intro|exact azg|fail)
  exact made_app (f:=rg y) rfl (.inl (by omega))
 have h6:¬ (j:Int) < y.length:=of_decide_eq_false h5
 obtain rfl:j = y.length:=by omega
 (repeat((conv=>whnf);refine ajg ?_))<;>try(conv=>whnf)
 all_goals(repeat' first|exact ayg|apply And.intro|exact azg|fail)
 exact made_refl _ _ _
set_option maxRecDepth 100000 in
noncomputable def rCanon_s:PSpec Tryz.prog:=⟨60,ghSpec (List Rat × Nat) (fun | (c0,c1)=>[rlAv c0 c1]) (fun | (c0,c1)=>c0.length≤1048576∧c1≤134217728) (fun | (c0,c1)=>madeAv (rg c0) c0.length c1),ghSpec_ok (fn:=Tryz.f60) (ctx_ok TT_ok [rRNorm_s]) mixed_ok (by kernel_rfl) (fun | (c0,c1),hp=>rCanon_x c0 c1 hp.1 hp.2),by kernel_rfl⟩
end Go.Proofs.YtfgkecffpkdjcaaGreat
