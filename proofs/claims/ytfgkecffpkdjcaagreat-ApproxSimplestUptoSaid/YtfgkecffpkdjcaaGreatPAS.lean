/- ApproxSimplest: for every input where the arguments hold together at most 1048576 values the law returns true and leaves its arguments as they were. -/
import Derived.Test.YtfgkecffpkdjcaaGreatOC
import Derived.Test.YtfgkecffpkdjcaaGreatHead
import Derived.Test.YtfgkecffpkdjcaaGreatVY
namespace Go.Proofs.YtfgkecffpkdjcaaGreat.approxSimplest
open Go.ChangeShapes Go.WideShapes Go.ChangeAt Go.RowKit Go.Joins Gm
set_option maxRecDepth 100000 in
theorem lifted (os:Os) (started:os.Started) (H:Type) (enc:TypeId × Value→H) (F:Stop.Interp) :
  ReturnsInHanded {} Tryz.checked os 16 .any ((Rows.OpenSpec.upto Rows.approxSimplestSpec).pre6 enc Tryz.prog Tryz.f16 Rows.approxSimplestUptoRow.domain false) (((Rows.OpenSpec.upto Rows.approxSimplestSpec).at F).post enc Tryz.prog Tryz.f16 false true false false):=by
 refine returnsInHanded_of_cond (C:=Tryz.checked) (s:=Rows.OpenSpec.upto Rows.approxSimplestSpec) (k:=Rows.uptoSmall) rfl own started (by kernel_rfl) Tryz.func16
  (OpenSpec.witness (enc:=enc) (C:=Tryz.checked) (s:=Rows.OpenSpec.upto Rows.approxSimplestSpec) (k:=Rows.uptoSmall) rfl false ⟨#[],#[.slice none 0 0],[]⟩ 8 (by kernel_rfl) (by kernel_rfl) (by kernel_rfl)
    (x:=([.nil],[],[])) (by kernel_rfl) rfl (by kernel_rfl)) ?_
 intro W base args ds gs before hval0 hW _ hk _
 have hval:∀ (j:Nat) t v,Tryz.f16.params[j]? = some t→args[j]? = some v→Value.okWide Tryz.prog W .any base t v:=hval0
 have hW':=hW
 obtain ⟨p,q,hA0,hV,rfl,hfz,hnd⟩:=hW
 have hA:DataW.TrodAll enc Tryz.prog W 0 (fun _=>true) true Tryz.f16.params.toList args.toList ds p:=hA0
 rw [Tryz.params16] at hA hval
 obtain ⟨v0,vs0,d0,ds0,p0,q0,hargs,rfl,rfl,h0,r0⟩:=trodAll_cons hA
 obtain ⟨rfl,rfl,rfl⟩:=trodAll_nil r0
 obtain rfl:args = #[v0]:=by cases args;simp_all
 obtain ⟨rfl,rfl⟩:=trodVars_none hV
 have k0:=h0
 have lt0:∀ x ∈ p0,x.block < W.heap.size:=by obtain ⟨m,hm⟩:=k0;exact DataW.trod_lt m _ _ _ hm
 have hbulk:Rows.uptoBulkAll _≤1048576:=of_decide_eq_true hk
 simp only [List.append_nil,Rows.uptoBulkAll] at hbulk
 obtain ⟨a0,o0,b0⟩:=opn_il_v (hval 0 22 v0 rfl rfl) h0 (by omega)
 clear hA0 hval0
 refine (smp5_walk o0 b0).mono fun e W' ⟨he,bel⟩=>?_
 subst he
 exact ⟨_,rfl,_,_,_,[],_,[],hW',trodAll_mk1 (shut_bool Tryz.underlying4 _),(trodAll_cons_mk (Below.trod laidOut (by kernel_rfl) (of_decide_eq_true (by kernel_rfl)) k0 bel lt0) trodAll_mk0),rfl,bel.frame _,fun h=>by cases h⟩
set_option maxHeartbeats 1000000 in
theorem closed:joinedFacts Tryz.prog 16 Tryz.f16 (Rows.OpenSpec.upto Rows.approxSimplestSpec).bare Rows.approxSimplestUptoRow = true:=by
 unfold joinedFacts
 repeat' (with_reducible refine andT ?_ ?_)
 any_goals (with_reducible exact mayEnter_)
 any_goals (rw [lifts_])
 any_goals (rw [make_])
 all_goals (as_aux_lemma=>kernel_rfl)
theorem proved:Rows.ApproxSimplestUptoSaid:=
 OpenClaim.holds_of_cond 16 Tryz.f16 rfl rfl rfl rfl rfl rfl rfl ⟨rfl,rfl,rfl,rfl,rfl⟩ rfl rfl rfl rfl rfl (by as_aux_lemma=>kernel_rfl) Tryz.func16 closed
  (of_decide_eq_true (by as_aux_lemma=>kernel_rfl)) (by unfold Func.isWrapper;first | (rw [if_pos (by decide +kernel)];kernel_rfl) | (rw [if_neg (by decide +kernel)];exact ⟨rfl,rfl⟩))
  (fun os started H enc _ F=>lifted os started H enc F)
end Go.Proofs.YtfgkecffpkdjcaaGreat.approxSimplest
