/- Package law11: the example, the check, by the executor; lists that the tape made. -/
import Derived.Test.YtfgkecffpkdjcaaGreatVI
import Derived.Test.YtfgkecffpkdjcaaGreatVTP
namespace Go.Proofs.YtfgkecffpkdjcaaGreat
open Go.RowKit Gm Go.Vx
set_option maxRecDepth 100000
theorem ex_obj:obj exP [mkRat 2 1,mkRat 1 1] = mkRat 4 1:=by decide +kernel
theorem ex_nsg:¬ Sgd exP [mkRat (-1) 1]:=fun h=>by
 have:=(h.s 0 (by decide)).2 rfl
 revert this;decide +kernel
theorem rg_map {f:Nat→Rat} {n j:Nat} (h:j < n):rg ((List.range n).map f) j = f j:=by simp [rg,List.getD_eq_getElem?_getD,h]
theorem made_fit (f:Nat→Rat) (n:Nat) {K L:Nat} (h:K≤L):fitC (rlAv ((List.range n).map f) L) (.cons (madeAv f n K) .nil):=And.intro rfl (And.intro (by simp) fun j hj=>And.intro (And.intro (rg_map (by simpa using hj)).symm (.inl h)) True.intro)
theorem made_len (f:Nat→Rat) (n:Nat):((List.range n).map f).length = n:=by simp
theorem wt_fun {f:Nat→Rat} {k:Nat} (m:Nat) (h:∀ i,Sz (f i) k):Wt ((List.range m).map f) (m * k):=by
 have:=wt_const (nums:=fun q=>[q]) (f:=f) (k:=k) m fun i _=>Gm.Sz.wt (h i)
 have e:∀ l:List Rat,l.flatMap (fun q=>[q]) = l:=fun l=>by rw [← List.map_eq_flatMap];simp
 rwa [e] at this
theorem gp_bd (F:Nat→Int) (n:Nat):(gPrg F n 0 4 4).cols.length≤4∧(gPrg F n 0 4 4).rows.length≤4:=by
 have h1:=gNc_le (F:=F) (n:=n) (i:=0) (c:=4) (by decide)
 have h2:=gNr_le (F:=F) (n:=n) (i:=0) (c:=4) (r:=4) (by decide)
 rw [gPrg_cols,gPrg_rows];omega
theorem gp_vld (F:Nat→Int) (n:Nat):Vld (gPrg F n 0 4 4):=gPrg_vld (by decide) (by decide) (by decide) (by decide)
theorem sz_trs (F:Nat→Int) (n i k:Nat):Sz (tRsV F n i k) 2:=sz_trat _ _ _
set_option smartUnfolding false in
theorem ex11_x :fnOk ⟨TT,specsOf [rRFromInt_s]⟩ Tryz.f80 [] (prgAv exP 5):=by
 (repeat((conv=>whnf);refine aig ?_))<;>try(conv=>whnf)
 refine And.intro ?_ (And.intro ?_ True.intro)
 ·refine And.intro rfl (And.intro rfl (lt_two ?_ ?_))
  ·exact And.intro (q_cell _) (And.intro rfl (And.intro (And.intro rfl (by decide)) (And.intro rfl (And.intro (q_cell _) True.intro))))
  ·exact And.intro (q_cell _) (And.intro rfl (And.intro (And.intro rfl (by decide)) (And.intro rfl (And.intro (And.intro rfl (by decide)) True.intro))))
 ·refine And.intro rfl (And.intro rfl (lt_one ?_))
  refine And.intro rfl (And.intro (q_cell _) (And.intro (And.intro rfl (And.intro rfl (lt_two ?_ ?_))) True.intro))
  ·exact And.intro rfl (And.intro (q_cell _) True.intro)
  ·exact And.intro rfl (And.intro (q_cell _) True.intro)
set_option smartUnfolding false in
theorem sml11_x (p:Prg) (K:Nat) (hb:PB p K):fnOk ⟨TT,specsOf ([]:List (PSpec Tryz.prog))⟩ Tryz.f33 [prgAv p K] (.val (.bool (pb (Sml p)))):=by
 have b0:=hb.c
 have b1:=hb.r
 (repeat((conv=>whnf);refine aig ?_))<;>try(conv=>whnf)
 refine And.intro (fun h1=>?_) (fun h1=>?_)
 ·(repeat((conv=>whnf);refine aig ?_))<;>try(conv=>whnf)
  exact congrArg Value.bool (pb_f.2 fun h=>by have:=of_decide_eq_true h1;have:=h.c;omega).symm
 have h1':=of_decide_eq_false h1
 (repeat((conv=>whnf);refine aig ?_))<;>try(conv=>whnf)
 refine And.intro (fun h2=>?_) (fun h2=>?_)
 ·(repeat((conv=>whnf);refine aig ?_))<;>try(conv=>whnf)
  exact congrArg Value.bool (pb_f.2 fun h=>by have:=of_decide_eq_true h2;have:=h.r;omega).symm
 have h2':=of_decide_eq_false h2
 (repeat((conv=>whnf);refine aig ?_))<;>try(conv=>whnf)
 refine ⟨⟨Nat,fun k=>k≤p.rows.length∧∀ i,i < k→(p.row i).es.length≤24,fun k=>[.slot 3 (.val (.int .i64 (k:Int)))],fun k=>p.rows.length - k,0⟩,0,⟨by omega,fun i h2=>by omega⟩,?_⟩
 conv=>whnf
 refine And.intro ?_ ?_
 ·all_goals(repeat' first|exact ayg|apply And.intro|exact azg|fail)
 conv=>whnf
 rintro i ⟨h7,h8⟩
 (repeat((conv=>whnf);refine aig ?_))<;>try(conv=>whnf)
 refine And.intro (fun h9=>?_) (fun h9=>?_)
 ·have h10:(i:Int) < p.rows.length:=of_decide_eq_true h9
  have w1:IntKind.i64.wrap ((i:Int) + 1) = (i:Int) + 1:=w64 (by omega) (by omega)
  (repeat((conv=>whnf);refine aig ?_))<;>try(conv=>whnf)
  refine And.intro (fun h11=>?_) (fun h11=>?_)
  ·have h12:(24:Int) < (p.row i).es.length:=of_decide_eq_true h11
   (repeat((conv=>whnf);refine aig ?_))<;>try(conv=>whnf)
   exact congrArg Value.bool (pb_f.2 fun h=>by have:=h.e i (by omega);omega).symm
  have h12:¬ (24:Int) < (p.row i).es.length:=of_decide_eq_false h11
  (repeat((conv=>whnf);refine aig ?_))<;>try(conv=>whnf)
  refine ⟨i + 1,⟨by omega,fun i' hi=>?_⟩,(show p.rows.length - (i + 1) < p.rows.length - i by omega),?_⟩
  ·rcases Nat.lt_or_ge i' i with hik | hik
   ·exact h8 i' hik
   ·rw [show i' = i by omega];omega
  conv=>whnf
  all_goals(repeat' first|exact ayg|apply And.intro|exact azg|fail)
 ·have h10:¬ (i:Int) < p.rows.length:=of_decide_eq_false h9
  (repeat((conv=>whnf);refine aig ?_))<;>try(conv=>whnf)
  exact congrArg Value.bool (pb_t.2 ⟨by omega,by omega,fun i hi=>h8 i (by omega)⟩).symm
noncomputable def sml11_s:PSpec Tryz.prog:=⟨33,ghSpec (Prg × Nat) (fun | (c0,c1)=>[prgAv c0 c1]) (fun | (c0,c1)=>PB c0 c1) (fun | (c0,_)=>.val (.bool (pb (Sml c0)))),ghSpec_ok (fn:=Tryz.f33) (ctx_ok TT_ok ([]:List (PSpec Tryz.prog))) mixed_ok (by kernel_rfl) (fun | (c0,c1),hp=>sml11_x c0 c1 hp),by kernel_rfl⟩
def ex11_s:PSpec Tryz.prog:=⟨80,sp0 (prgAv exP 5),sp0_ok fun _ _ ho=>fn_ok (ctx_ok TT_ok [rRFromInt_s]) mixed_ok (fn:=Tryz.f80) (by kernel_rfl) ex11_x ho .nil,by kernel_rfl⟩
set_option smartUnfolding false in
theorem aw11_x :fnOk ⟨TT,specsOf [ex11_s,rRFromInt_s,lobj_s,lbnd_s,lval_s,rREq_s,lfea_s,lsgd_s]⟩ Tryz.f26 [] (.kb true):=by
 have he:errC exP [mkRat 2 1,mkRat 1 1].length exP.cols.length = 0:=errC_zero.2 ⟨exV,rfl⟩
 (repeat((conv=>whnf);refine aig ?_))<;>try(conv=>whnf)
 refine ⟨((((exP,[mkRat 2 1,mkRat 1 1]),5),9),true),⟨⟨exX,fun _=>he,fun _=>rfl⟩,And.intro (prg_fit exP (Nat.le_refl 5)) (And.intro (And.intro rfl (And.intro rfl (fl2 _ _))) True.intro)⟩,?_⟩
 (repeat((conv=>whnf);refine aig ?_))<;>try(conv=>whnf)
 refine ⟨((((exP,[mkRat 2 1]),5),9),true),⟨⟨exY,by simpa using ex_b2⟩,And.intro (prg_fit exP (Nat.le_refl 5)) (And.intro (And.intro rfl (And.intro rfl (fl1 _))) True.intro)⟩,?_⟩
 (repeat((conv=>whnf);refine aig ?_))<;>try(conv=>whnf)
 refine ⟨(exP,5),⟨exPB,And.intro (prg_fit exP (Nat.le_refl 5)) True.intro⟩,?_⟩
 (repeat((conv=>whnf);refine aig ?_))<;>try(conv=>whnf)
 refine And.intro (fun _=>?_) (fun h=>absurd (beq_iff_eq.2 (errV_zero.2 exV)) (by rw [h];decide))
 (repeat((conv=>whnf);refine aig ?_))<;>try(conv=>whnf)
 refine And.intro (fun _=>?_) (fun h=>absurd h (by decide))
 (repeat((conv=>whnf);refine aig ?_))<;>try(conv=>whnf)
 refine And.intro (fun _=>?_) (fun h=>absurd ex_obj (of_decide_eq_false h))
 (repeat((conv=>whnf);refine aig ?_))<;>try(conv=>whnf)
 refine And.intro (fun _=>?_) (fun h=>absurd ex_bnd (of_decide_eq_false h))
 (repeat((conv=>whnf);refine aig ?_))<;>try(conv=>whnf)
 refine ⟨(((exP,[mkRat 2 1,mkRat 1 1]),5),9),⟨exX,And.intro (prg_fit exP (Nat.le_refl 5)) (And.intro (And.intro rfl (And.intro rfl (fl2 _ _))) True.intro)⟩,?_⟩
 (repeat((conv=>whnf);refine aig ?_))<;>try(conv=>whnf)
 refine And.intro (fun _=>?_) (fun h=>absurd ex_opt.1 (pb_f.1 h))
 (repeat((conv=>whnf);refine aig ?_))<;>try(conv=>whnf)
 refine ⟨((exP,[mkRat (-1) 1]),5),⟨exPB,And.intro (prg_fit exP (Nat.le_refl 5)) (And.intro (And.intro rfl (And.intro rfl (fl1 _))) True.intro)⟩,?_⟩
 (repeat((conv=>whnf);refine aig ?_))<;>try(conv=>whnf)
 exact npb ex_nsg
noncomputable def aw11_s:PSpec Tryz.prog:=⟨26,sp0 (.kb true),sp0_ok fun _ _ ho=>fn_ok (ctx_ok TT_ok [ex11_s,rRFromInt_s,lobj_s,lbnd_s,lval_s,rREq_s,lfea_s,lsgd_s]) mixed_ok (fn:=Tryz.f26) (by kernel_rfl) aw11_x ho .nil,by kernel_rfl⟩
end Go.Proofs.YtfgkecffpkdjcaaGreat
