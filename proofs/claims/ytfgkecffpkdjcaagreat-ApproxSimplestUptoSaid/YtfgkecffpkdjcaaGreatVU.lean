/- Rounding: package rational and reference 03 by the executor. -/
import Derived.Test.YtfgkecffpkdjcaaGreatVQ
namespace Go.Proofs.YtfgkecffpkdjcaaGreat
open Go.RowKit Gm Go.Vx
set_option maxRecDepth 100000
set_option smartUnfolding false in
theorem rRCeil_x (q:Rat) (K:Nat) (_hz:Sz q K) (hK:K≤1073741824):fnOk ⟨TT,specsOf [rRNeg_s,rRFloor_s,rINeg_s]⟩ Tryz.f121 [rAv q K] (zAv q.ceil K):=by
 have e:-(-q).floor = q.ceil:=(Rat.ceil_eq_neg_floor_neg q).symm
 (repeat((conv=>whnf);refine akg ?_))<;>try(conv=>whnf)
 all_goals(repeat' first|exact ayg|apply And.intro|exact azg|fail)
def rRCeil_s:PSpec Tryz.prog:=⟨121,spQ (fun _ K=>K≤1073741824) (fun q K=>zAv q.ceil K),spQ_fn (fn:=Tryz.f121) (ctx_ok TT_ok [rRNeg_s,rRFloor_s,rINeg_s]) mixed_ok (by kernel_rfl) (fun q K hz _ hK=>rRCeil_x q K hz hK),by kernel_rfl⟩
set_option smartUnfolding false in
theorem rWh_x (m:Int) (K:Nat) (hz:SzI m K) (hK:K≤1073741824):fnOk ⟨TT,specsOf [rIFromInt_s,rMake_s]⟩ Tryz.f122 [nAv m K] (qAv (m:Rat) (K + 3)):=by
 have e:mkRat m 1 = (m:Rat):=Rat.mkRat_one m
 have hs:Sz (mkRat m 1) (K + 3):=Sz.mono (sz_mk (d:=1) hz (szi_nat (n:=(1:Nat)) (by decide))) (by omega)
 (repeat((conv=>whnf);refine akg ?_))<;>try(conv=>whnf)
 refine ⟨((m:Rat),K + 3),⟨by omega,by omega,e,by rw [← e];exact hs⟩,?_⟩
 (repeat((conv=>whnf);refine akg ?_))<;>try(conv=>whnf)
 all_goals(repeat' first|exact ayg|apply And.intro|exact azg|fail)
def rWh_s:PSpec Tryz.prog:=⟨122,spZ (fun _ K=>K≤1073741824) (fun m K=>qAv (m:Rat) (K + 3)),spZ_fn (fn:=Tryz.f122) (ctx_ok TT_ok [rIFromInt_s,rMake_s]) mixed_ok (by kernel_rfl) (fun m K hz _ hK=>rWh_x m K hz hK),by kernel_rfl⟩
end Go.Proofs.YtfgkecffpkdjcaaGreat
