/- Package law11: the example, the check, by the executor; lists that the tape made. -/
import Derived.Test.YtfgkecffpkdjcaaGreatVI
import Derived.Test.YtfgkecffpkdjcaaGreatVTP
namespace Go.Proofs.YtfgkecffpkdjcaaGreat
open Go.RowKit Gm Go.Vx
set_option maxRecDepth 100000
theorem ex_obj:obj exP [mkRat 2 1,mkRat 1 1] = mkRat 4 1:=by decide +kernel
theorem ex_nsg:¬ Sgd exP [mkRat (-1) 1]:=fun h=>by
 have:=(h.s 0 (by decide)).2 rfl
 revert this;decide +kernel
theorem gp_bd (F:Nat→Int) (n:Nat):(gPrg F n 0 4 4).cols.length≤4∧(gPrg F n 0 4 4).rows.length≤4:=by
 have h1:=gNc_le (F:=F) (n:=n) (i:=0) (c:=4) (by decide)
 have h2:=gNr_le (F:=F) (n:=n) (i:=0) (c:=4) (r:=4) (by decide)
 rw [gPrg_cols,gPrg_rows];omega
theorem gp_vld (F:Nat→Int) (n:Nat):Vld (gPrg F n 0 4 4):=gPrg_vld (by decide) (by decide) (by decide) (by decide)
set_option smartUnfolding false in
theorem ex11_x :fnOk ⟨TT,specsOf [rRFromInt_s]⟩ Tryz.f80 [] (prgAv exP 5):=by
 (repeat((conv=>whnf);refine aig ?_))<;>try(conv=>whnf)
 refine And.intro ?_ (And.intro ?_ True.intro)
 ·refine And.intro rfl (And.intro rfl (lt_two ?_ ?_))
  ·exact And.intro (q_cell _) (And.intro rfl (And.intro (And.intro rfl (by decide)) (And.intro rfl (And.intro (q_cell _) True.intro))))
  ·exact And.intro (q_cell _) (And.intro rfl (And.intro (And.intro rfl (by decide)) (And.intro rfl (And.intro (And.intro rfl (by decide)) True.intro))))
 ·refine And.intro rfl (And.intro rfl (lt_one ?_))
  refine And.intro rfl (And.intro (q_cell _) (And.intro (And.intro rfl (And.intro rfl (lt_two ?_ ?_))) True.intro))
  ·exact And.intro rfl (And.intro (q_cell _) True.intro)
  ·exact And.intro rfl (And.intro (q_cell _) True.intro)
def ex11_s:PSpec Tryz.prog:=⟨80,sp0 (prgAv exP 5),sp0_ok fun _ _ ho=>fn_ok (ctx_ok TT_ok [rRFromInt_s]) mixed_ok (fn:=Tryz.f80) (by kernel_rfl) ex11_x ho .nil,by kernel_rfl⟩
set_option smartUnfolding false in
theorem aw11_x :fnOk ⟨TT,specsOf [ex11_s,rRFromInt_s,lobj_s,lbnd_s,lval_s,rREq_s,lfea_s,lsgd_s]⟩ Tryz.f26 [] (.kb true):=by
 have he:errC exP [mkRat 2 1,mkRat 1 1].length exP.cols.length = 0:=errC_zero.2 ⟨exV,rfl⟩
 (repeat((conv=>whnf);refine aig ?_))<;>try(conv=>whnf)
 refine ⟨((((exP,[mkRat 2 1,mkRat 1 1]),5),9),true),⟨⟨exX,fun _=>he,fun _=>rfl⟩,And.intro (prg_fit exP (Nat.le_refl 5)) (And.intro (And.intro rfl (And.intro rfl (fl2 _ _))) True.intro)⟩,?_⟩
 (repeat((conv=>whnf);refine aig ?_))<;>try(conv=>whnf)
 refine ⟨((((exP,[mkRat 2 1]),5),9),true),⟨⟨exY,by simpa using ex_b2⟩,And.intro (prg_fit exP (Nat.le_refl 5)) (And.intro (And.intro rfl (And.intro rfl (fl1 _))) True.intro)⟩,?_⟩
 (repeat((conv=>whnf);refine aig ?_))<;>try(conv=>whnf)
 refine ⟨(exP,5),⟨exPB,And.intro (prg_fit exP (Nat.le_refl 5)) True.intro⟩,?_⟩
 (repeat((conv=>whnf);refine aig ?_))<;>try(conv=>whnf)
 refine And.intro (fun _=>?_) (fun h=>absurd (beq_iff_eq.2 (errV_zero.2 exV)) (by rw [h];decide))
 (repeat((conv=>whnf);refine aig ?_))<;>try(conv=>whnf)
 refine And.intro (fun _=>?_) (fun h=>absurd h (by decide))
 (repeat((conv=>whnf);refine aig ?_))<;>try(conv=>whnf)
 refine And.intro (fun _=>?_) (fun h=>absurd ex_obj (of_decide_eq_false h))
 (repeat((conv=>whnf);refine aig ?_))<;>try(conv=>whnf)
 refine And.intro (fun _=>?_) (fun h=>absurd ex_bnd (of_decide_eq_false h))
 (repeat((conv=>whnf);refine aig ?_))<;>try(conv=>whnf)
 refine ⟨(((exP,[mkRat 2 1,mkRat 1 1]),5),9),⟨exX,And.intro (prg_fit exP (Nat.le_refl 5)) (And.intro (And.intro rfl (And.intro rfl (fl2 _ _))) True.intro)⟩,?_⟩
 (repeat((conv=>whnf);refine aig ?_))<;>try(conv=>whnf)
 refine And.intro (fun _=>?_) (fun h=>absurd ex_opt.1 (pb_f.1 h))
 (repeat((conv=>whnf);refine aig ?_))<;>try(conv=>whnf)
 refine ⟨((exP,[mkRat (-1) 1]),5),⟨exPB,And.intro (prg_fit exP (Nat.le_refl 5)) (And.intro (And.intro rfl (And.intro rfl (fl1 _))) True.intro)⟩,?_⟩
 (repeat((conv=>whnf);refine aig ?_))<;>try(conv=>whnf)
 exact npb ex_nsg
noncomputable def aw11_s:PSpec Tryz.prog:=⟨26,sp0 (.kb true),sp0_ok fun _ _ ho=>fn_ok (ctx_ok TT_ok [ex11_s,rRFromInt_s,lobj_s,lbnd_s,lval_s,rREq_s,lfea_s,lsgd_s]) mixed_ok (fn:=Tryz.f26) (by kernel_rfl) aw11_x ho .nil,by kernel_rfl⟩
end Go.Proofs.YtfgkecffpkdjcaaGreat
