/- The statements about certificates by the executor. -/
import Derived.Test.YtfgkecffpkdjcaaGreatVH
import Derived.Test.YtfgkecffpkdjcaaGreatLE
namespace Go.Proofs.YtfgkecffpkdjcaaGreat
open Go.RowKit Gm Go.Vx
structure Sml (p:Prg):Prop where
 c:p.cols.length≤12
 r:p.rows.length≤12
 e:∀ i,i < p.rows.length→(p.row i).es.length≤24
theorem q_cell (q:Rat):q = q∧(5≤5∨Sz q 5):=⟨rfl,.inl (Nat.le_refl 5)⟩
theorem fl1 (q:Rat):∀ i,i < 1→fitC (.cons (.rat (rg [q] i) 5) .nil) (nthp .nil [.cons (.ratC q 5) .nil] i):=lt_one (And.intro (q_cell _) True.intro)
theorem fl2 (q r:Rat):∀ i,i < 2→fitC (.cons (.rat (rg [q,r] i) 5) .nil) (nthp .nil [.cons (.ratC q 5) .nil,.cons (.ratC r 5) .nil] i):=lt_two (And.intro (q_cell _) True.intro) (And.intro (q_cell _) True.intro)
theorem npb {P:Prop} (h:¬ P):(!pb P) = true:=by rw [pb_f.2 h];rfl
set_option smartUnfolding false in
set_option maxRecDepth 100000 in
theorem rCan_x (q:Rat) (K:Nat) (hK:K≤134217728):fnOk ⟨TT,specsOf [rRNorm_s,rREq_s]⟩ Tryz.f103 [qAv q K] (.kb true):=by
 (repeat((conv=>whnf);refine ajg ?_))<;>try(conv=>whnf)
 exact decide_eq_true rfl
set_option maxRecDepth 100000 in
noncomputable def rCan_s:PSpec Tryz.prog:=⟨103,ghSpec (Rat × Nat) (fun | (c0,c1)=>[qAv c0 c1]) (fun | (_,c1)=>c1≤134217728) (fun | (_,_)=>.kb true),ghSpec_ok (fn:=Tryz.f103) (ctx_ok TT_ok [rRNorm_s,rREq_s]) mixed_ok (by kernel_rfl) (fun | (c0,c1),hp=>rCan_x c0 c1 hp),by kernel_rfl⟩
end Go.Proofs.YtfgkecffpkdjcaaGreat
