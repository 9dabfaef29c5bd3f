/- The statements about certificates by the executor. -/
import Derived.Test.YtfgkecffpkdjcaaGreatVH
import Derived.Test.YtfgkecffpkdjcaaGreatLE
namespace Go.Proofs.YtfgkecffpkdjcaaGreat
open Go.RowKit Gm Go.Vx
set_option maxRecDepth 100000
structure Sml (p:Prg):Prop where
 c:p.cols.length≤12
 r:p.rows.length≤12
 e:∀ i,i < p.rows.length→(p.row i).es.length≤24
def SameL (f:Nat→Rat) (n:Nat) (g:Nat→Rat) (m:Nat):Prop:=n = m∧∀ i,i < n→f i = g i
theorem q_fit (q:Rat) {K L:Nat} (h:K≤L):fitC (qAv q L) (.cons (qAv q K) .nil):=And.intro (And.intro rfl (.inl h)) True.intro
theorem q_cell (q:Rat):q = q∧(5≤5∨Sz q 5):=⟨rfl,.inl (Nat.le_refl 5)⟩
theorem fl1 (q:Rat):∀ i,i < 1→fitC (.cons (.rat (rg [q] i) 5) .nil) (nthp .nil [.cons (.ratC q 5) .nil] i):=lt_one (And.intro (q_cell _) True.intro)
theorem fl2 (q r:Rat):∀ i,i < 2→fitC (.cons (.rat (rg [q,r] i) 5) .nil) (nthp .nil [.cons (.ratC q 5) .nil,.cons (.ratC r 5) .nil] i):=lt_two (And.intro (q_cell _) True.intro) (And.intro (q_cell _) True.intro)
theorem flC (q:Rat):∀ i,i < 1→fitC (.cons (.ratC (rg [q] i) 5) .nil) (nthp .nil [.cons (.ratC q 5) .nil] i):=lt_one (And.intro (q_cell _) True.intro)
theorem npb {P:Prop} (h:¬ P):(!pb P) = true:=by rw [pb_f.2 h];rfl
set_option smartUnfolding false in
theorem sml_x (p:Prg) (K:Nat) (hb:PB p K):fnOk ⟨TT,specsOf ([]:List (PSpec Tryz.prog))⟩ Tryz.f46 [prgAv p K] (.val (.bool (pb (Sml p)))):=by
 have b0:=hb.c
 have b1:=hb.r
 (repeat((conv=>whnf);refine ajg ?_))<;>try(conv=>whnf)
 refine And.intro (fun h1=>?_) (fun h1=>?_)
 ·(repeat((conv=>whnf);refine ajg ?_))<;>try(conv=>whnf)
  exact congrArg Value.bool (pb_f.2 fun h=>by have:=of_decide_eq_true h1;have:=h.c;omega).symm
 have h1':=of_decide_eq_false h1
 (repeat((conv=>whnf);refine ajg ?_))<;>try(conv=>whnf)
 refine And.intro (fun h2=>?_) (fun h2=>?_)
 ·(repeat((conv=>whnf);refine ajg ?_))<;>try(conv=>whnf)
  exact congrArg Value.bool (pb_f.2 fun h=>by have:=of_decide_eq_true h2;have:=h.r;omega).symm
 have h2':=of_decide_eq_false h2
 (repeat((conv=>whnf);refine ajg ?_))<;>try(conv=>whnf)
 refine ⟨⟨Nat,fun k=>k≤p.rows.length∧∀ i,i < k→(p.row i).es.length≤24,fun k=>[.slot 3 (.val (.int .i64 (k:Int)))],fun k=>p.rows.length - k,0⟩,0,⟨by omega,fun i h2=>by omega⟩,?_⟩
 conv=>whnf
 refine And.intro ?_ ?_
 ·all_goals(repeat' first|exact ayg|apply And.intro|exact azg|fail)
 conv=>whnf
 rintro i ⟨h7,h8⟩
 (repeat((conv=>whnf);refine ajg ?_))<;>try(conv=>whnf)
 refine And.intro (fun h9=>?_) (fun h9=>?_)
 ·have h10:(i:Int) < p.rows.length:=of_decide_eq_true h9
  have w1:IntKind.i64.wrap ((i:Int) + 1) = (i:Int) + 1:=w64 (by omega) (by omega)
  (repeat((conv=>whnf);refine ajg ?_))<;>try(conv=>whnf)
  refine And.intro (fun h11=>?_) (fun h11=>?_)
  ·have h12:(24:Int) < (p.row i).es.length:=of_decide_eq_true h11
   (repeat((conv=>whnf);refine ajg ?_))<;>try(conv=>whnf)
   exact congrArg Value.bool (pb_f.2 fun h=>by have:=h.e i (by omega);omega).symm
  have h12:¬ (24:Int) < (p.row i).es.length:=of_decide_eq_false h11
  (repeat((conv=>whnf);refine ajg ?_))<;>try(conv=>whnf)
  refine ⟨i + 1,⟨by omega,fun i' hi=>?_⟩,(show p.rows.length - (i + 1) < p.rows.length - i by omega),?_⟩
  ·rcases Nat.lt_or_ge i' i with hik | hik
   ·exact h8 i' hik
   ·rw [show i' = i by omega];omega
  conv=>whnf
  all_goals(repeat' first|exact ayg|apply And.intro|exact azg|fail)
 ·have h10:¬ (i:Int) < p.rows.length:=of_decide_eq_false h9
  (repeat((conv=>whnf);refine ajg ?_))<;>try(conv=>whnf)
  exact congrArg Value.bool (pb_t.2 ⟨by omega,by omega,fun i hi=>h8 i (by omega)⟩).symm
noncomputable def sml_s:PSpec Tryz.prog:=⟨46,ghSpec (Prg × Nat) (fun | (c0,c1)=>[prgAv c0 c1]) (fun | (c0,c1)=>PB c0 c1) (fun | (c0,_)=>.val (.bool (pb (Sml c0)))),ghSpec_ok (fn:=Tryz.f46) (ctx_ok TT_ok ([]:List (PSpec Tryz.prog))) mixed_ok (by kernel_rfl) (fun | (c0,c1),hp=>sml_x c0 c1 hp),by kernel_rfl⟩
set_option smartUnfolding false in
theorem rCan_x (q:Rat) (K:Nat) (hK:K≤134217728):fnOk ⟨TT,specsOf [rRNorm_s,rREq_s]⟩ Tryz.f103 [qAv q K] (.kb true):=by
 (repeat((conv=>whnf);refine ajg ?_))<;>try(conv=>whnf)
 exact decide_eq_true rfl
noncomputable def rCan_s:PSpec Tryz.prog:=⟨103,ghSpec (Rat × Nat) (fun | (c0,c1)=>[qAv c0 c1]) (fun | (_,c1)=>c1≤134217728) (fun | (_,_)=>.kb true),ghSpec_ok (fn:=Tryz.f103) (ctx_ok TT_ok [rRNorm_s,rREq_s]) mixed_ok (by kernel_rfl) (fun | (c0,c1),hp=>rCan_x c0 c1 hp),by kernel_rfl⟩
set_option smartUnfolding false in
theorem rSame_x (f:Nat→Rat) (n M:Nat) (e:Nat→Rat) (m L:Nat) (hn:n≤1048576) (hM:M≤134217728) (hL:L≤134217728):fnOk ⟨TT,specsOf [rCan_s,rREq_s]⟩ Tryz.f55 [madeAv f n M,madeAv e m L] (.val (.bool (pb (SameL f n e m)))):=by
 (repeat((conv=>whnf);refine ajg ?_))<;>try(conv=>whnf)
 refine And.intro (fun h1=>?_) (fun h1=>?_)
 ·(repeat((conv=>whnf);refine ajg ?_))<;>try(conv=>whnf)
  exact congrArg Value.bool (pb_f.2 fun h=>by rw [bne_iff_ne] at h1;exact h1 (congrArg _ h.1)).symm
 have hnm:n = m:=by have:=bne_eq_false_iff_eq.1 h1;exact Int.ofNat.inj this
 subst hnm
 (repeat((conv=>whnf);refine ajg ?_))<;>try(conv=>whnf)
 refine ⟨⟨Nat,fun k=>k≤n∧∀ i,i < k→f i = e i,fun k=>[.slot 5 (.val (.int .i64 (k:Int)))],fun k=>n - k,0⟩,0,⟨by omega,fun i h2=>by omega⟩,?_⟩
 conv=>whnf
 refine And.intro ?_ ?_
 ·all_goals(repeat' first|exact ayg|apply And.intro|exact azg|fail)
 conv=>whnf
 rintro k ⟨h3,h4⟩
 (repeat((conv=>whnf);refine ajg ?_))<;>try(conv=>whnf)
 refine And.intro (fun h5=>?_) (fun h5=>?_)
 ·have h6:(k:Int) < n:=of_decide_eq_true h5
  have w1:IntKind.i64.wrap ((k:Int) + 1) = (k:Int) + 1:=w64 (by omega) (by omega)
  (repeat((conv=>whnf);refine ajg ?_))<;>try(conv=>whnf)
  refine ⟨(f k,M),⟨by omega,And.intro (q_fit _ (Nat.le_refl M)) True.intro⟩,?_⟩
  (repeat((conv=>whnf);refine ajg ?_))<;>try(conv=>whnf)
  refine ⟨(e k,L),⟨by omega,And.intro (q_fit _ (Nat.le_refl L)) True.intro⟩,?_⟩
  (repeat((conv=>whnf);refine ajg ?_))<;>try(conv=>whnf)
  refine And.intro (fun h7=>?_) (fun h7=>?_)
  ·(repeat((conv=>whnf);refine ajg ?_))<;>try(conv=>whnf)
   exact congrArg Value.bool (pb_f.2 fun h=>by have:=h.2 k (by omega);simp [this] at h7).symm
  (repeat((conv=>whnf);refine ajg ?_))<;>try(conv=>whnf)
  refine ⟨k + 1,⟨by omega,fun i hi=>?_⟩,(show n - (k + 1) < n - k by omega),?_⟩
  ·rcases Nat.lt_or_ge i k with hik | hik
   ·exact h4 i hik
   ·rw [show i = k by omega];simpa using h7
  conv=>whnf
  all_goals(repeat' first|exact ayg|apply And.intro|exact azg|fail)
 ·have h6:¬ (k:Int) < n:=of_decide_eq_false h5
  obtain rfl:k = n:=by omega
  (repeat((conv=>whnf);refine ajg ?_))<;>try(conv=>whnf)
  exact congrArg Value.bool (pb_t.2 ⟨rfl,h4⟩).symm
noncomputable def rSame_s:PSpec Tryz.prog:=⟨55,ghSpec ((((((Nat→Rat) × Nat) × Nat) × (Nat→Rat)) × Nat) × Nat) (fun | (((((c0,c1),c2),c3),c4),c5)=>[madeAv c0 c1 c2,madeAv c3 c4 c5]) (fun | (((((_,c1),c2),_),_),c5)=>c1≤1048576∧c2≤134217728∧c5≤134217728) (fun | (((((c0,c1),_),c3),c4),_)=>.val (.bool (pb (SameL c0 c1 c3 c4)))),ghSpec_ok (fn:=Tryz.f55) (ctx_ok TT_ok [rCan_s,rREq_s]) mixed_ok (by kernel_rfl) (fun | (((((c0,c1),c2),c3),c4),c5),hp=>rSame_x c0 c1 c2 c3 c4 c5 hp.1 hp.2.1 hp.2.2),by kernel_rfl⟩
set_option smartUnfolding false in
theorem ex12_x :fnOk ⟨TT,specsOf [rRFromInt_s]⟩ Tryz.f99 [] (prgAv exP 5):=by
 (repeat((conv=>whnf);refine ajg ?_))<;>try(conv=>whnf)
 refine And.intro ?_ (And.intro ?_ True.intro)
 ·refine And.intro rfl (And.intro rfl (lt_two ?_ ?_))
  ·exact And.intro (q_cell _) (And.intro rfl (And.intro (And.intro rfl (by decide)) (And.intro rfl (And.intro (q_cell _) True.intro))))
  ·exact And.intro (q_cell _) (And.intro rfl (And.intro (And.intro rfl (by decide)) (And.intro rfl (And.intro (And.intro rfl (by decide)) True.intro))))
 ·refine And.intro rfl (And.intro rfl (lt_one ?_))
  refine And.intro rfl (And.intro (q_cell _) (And.intro (And.intro rfl (And.intro rfl (lt_two ?_ ?_))) True.intro))
  ·exact And.intro rfl (And.intro (q_cell _) True.intro)
  ·exact And.intro rfl (And.intro (q_cell _) True.intro)
def ex12_s:PSpec Tryz.prog:=⟨99,sp0 (prgAv exP 5),sp0_ok fun _ _ ho=>fn_ok (ctx_ok TT_ok [rRFromInt_s]) mixed_ok (fn:=Tryz.f99) (by kernel_rfl) ex12_x ho .nil,by kernel_rfl⟩
set_option smartUnfolding false in
theorem aw12_x :fnOk ⟨TT,specsOf [ex12_s,rRFromInt_s,rROf_s,rIFromInt_s,csh_s,copt_s,cinf_s,rSame_s]⟩ Tryz.f48 [] (.kb true):=by
 (repeat((conv=>whnf);refine ajg ?_))<;>try(conv=>whnf)
 refine ⟨(((((exP,[mkRat 2001 1000]),mkRat 4 1),1),5),15),⟨exS,?_⟩,?_⟩
 ·exact And.intro (prg_fit exP (Nat.le_refl 5)) (And.intro (And.intro rfl (And.intro rfl (fl1 _))) (And.intro (And.intro (q_cell _) True.intro) (And.intro (And.intro (And.intro rfl (.inl (by decide))) True.intro) True.intro)))
 (repeat((conv=>whnf);refine ajg ?_))<;>try(conv=>whnf)
 refine ⟨((((exP,[mkRat 2 1,mkRat 1 1]),[mkRat 2 1]),5),9),⟨⟨exX,exY⟩,?_⟩,?_⟩
 ·exact And.intro (prg_fit exP (Nat.le_refl 5)) (And.intro (And.intro rfl (And.intro rfl (fl2 _ _))) (And.intro (And.intro rfl (And.intro rfl (fl1 _))) True.intro))
 (repeat((conv=>whnf);refine ajg ?_))<;>try(conv=>whnf)
 refine And.intro (fun _=>?_) (fun h=>absurd ex_opt (pb_f.1 h))
 (repeat((conv=>whnf);refine ajg ?_))<;>try(conv=>whnf)
 refine ⟨(((noP,[mkRat 1 1]),5),9),⟨⟨noF,by decide⟩,?_⟩,?_⟩
 ·refine And.intro (And.intro ?_ (And.intro ?_ True.intro)) (And.intro (And.intro rfl (And.intro rfl (fl1 _))) True.intro)
  ·refine And.intro rfl (And.intro rfl (lt_one ?_))
   exact And.intro (And.intro rfl (by decide)) (And.intro rfl (And.intro (And.intro rfl (by decide)) (And.intro rfl (And.intro (And.intro rfl (by decide)) True.intro))))
  ·refine And.intro rfl (And.intro rfl (lt_one ?_))
   exact And.intro rfl (And.intro (q_cell _) (And.intro (And.intro rfl (And.intro rfl (lt_one (And.intro rfl (And.intro (q_cell _) True.intro))))) True.intro))
 (repeat((conv=>whnf);refine ajg ?_))<;>try(conv=>whnf)
 refine And.intro (fun _=>?_) (fun h=>absurd no_inf (pb_f.1 h))
 (repeat((conv=>whnf);refine ajg ?_))<;>try(conv=>whnf)
 refine ⟨(((exP,[mkRat 1 1]),5),9),⟨⟨exF,by decide⟩,?_⟩,?_⟩
 ·exact And.intro (prg_fit exP (Nat.le_refl 5)) (And.intro (And.intro rfl (And.intro rfl (fl1 _))) True.intro)
 (repeat((conv=>whnf);refine ajg ?_))<;>try(conv=>whnf)
 refine And.intro (fun _=>?_) (fun h=>absurd (pbnf h) ex_noinf)
 (repeat((conv=>whnf);refine ajg ?_))<;>try(conv=>whnf)
 refine ⟨(((((rg (shL exP [mkRat 2001 1000] (mkRat 4 1) 1),1),7),rg [mkRat 2 1]),1),5),⟨⟨by decide,by decide,by decide⟩,?_⟩,?_⟩
 ·exact And.intro (And.intro rfl (And.intro rfl (made_refl _ _ _))) (And.intro (And.intro rfl (And.intro rfl (flC _))) True.intro)
 (repeat((conv=>whnf);refine ajg ?_))<;>try(conv=>whnf)
 exact pb_t.2 ⟨rfl,fun i _=>by rw [ex_sh]⟩
noncomputable def aw12_s:PSpec Tryz.prog:=⟨48,sp0 (.kb true),sp0_ok fun _ _ ho=>fn_ok (ctx_ok TT_ok [ex12_s,rRFromInt_s,rROf_s,rIFromInt_s,csh_s,copt_s,cinf_s,rSame_s]) mixed_ok (fn:=Tryz.f48) (by kernel_rfl) aw12_x ho .nil,by kernel_rfl⟩
end Go.Proofs.YtfgkecffpkdjcaaGreat
