/- LinprogMultipliers: for every input where the arguments hold together at most 1048576 values the law returns true and leaves its arguments as they were. -/
import Derived.Test.YtfgkecffpkdjcaaGreatOC
import Derived.Test.YtfgkecffpkdjcaaGreatHead
import Derived.Test.YtfgkecffpkdjcaaGreatVKM
namespace Go.Proofs.YtfgkecffpkdjcaaGreat.linprogMultipliers
open Go.ChangeShapes Go.WideShapes Go.ChangeAt Go.RowKit Go.Joins Gm
set_option maxRecDepth 100000 in
theorem lifted (os:Os) (started:os.Started) (H:Type) (enc:TypeId × Value→H) (F:Stop.Interp) :
  ReturnsInHanded {} Tryz.checked os 5 .any ((Rows.OpenSpec.upto Rows.linprogMultipliersSpec).pre6 enc Tryz.prog Tryz.f5 Rows.linprogMultipliersUptoRow.domain false) (((Rows.OpenSpec.upto Rows.linprogMultipliersSpec).at F).post enc Tryz.prog Tryz.f5 false true false false):=by
 refine returnsInHanded_of_cond (C:=Tryz.checked) (s:=Rows.OpenSpec.upto Rows.linprogMultipliersSpec) (k:=Rows.uptoSmall) rfl own started (by kernel_rfl) Tryz.func5
  (OpenSpec.witness (enc:=enc) (C:=Tryz.checked) (s:=Rows.OpenSpec.upto Rows.linprogMultipliersSpec) (k:=Rows.uptoSmall) rfl false ⟨#[],#[.agg #[.slice none 0 0,.slice none 0 0],.slice none 0 0,.slice none 0 0,.slice none 0 0],[]⟩ 8 (by kernel_rfl) (by kernel_rfl) (by kernel_rfl)
    (x:=([.agg [.nil,.nil],.nil,.nil,.nil],[],[])) (by kernel_rfl) rfl (by kernel_rfl)) ?_
 intro W base args ds gs before hval0 hW _ hk _
 have hval:∀ (j:Nat) t v,Tryz.f5.params[j]? = some t→args[j]? = some v→Value.okWide Tryz.prog W .any base t v:=hval0
 have hW':=hW
 obtain ⟨p,q,hA0,hV,rfl,hfz,hnd⟩:=hW
 have hA:DataW.TrodAll enc Tryz.prog W 0 (fun _=>true) true Tryz.f5.params.toList args.toList ds p:=hA0
 rw [Tryz.params5] at hA hval
 obtain ⟨v0,vs0,d0,ds0,p0,q0,hargs,rfl,rfl,h0,r0⟩:=trodAll_cons hA
 obtain ⟨v1,vs1,d1,ds1,p1,q1,rfl,rfl,rfl,h1,r1⟩:=trodAll_cons r0
 obtain ⟨v2,vs2,d2,ds2,p2,q2,rfl,rfl,rfl,h2,r2⟩:=trodAll_cons r1
 obtain ⟨v3,vs3,d3,ds3,p3,q3,rfl,rfl,rfl,h3,r3⟩:=trodAll_cons r2
 obtain ⟨rfl,rfl,rfl⟩:=trodAll_nil r3
 obtain rfl:args = #[v0,v1,v2,v3]:=by cases args;simp_all
 obtain ⟨rfl,rfl⟩:=trodVars_none hV
 have k0:=h0
 have lt0:∀ x ∈ p0,x.block < W.heap.size:=by obtain ⟨m,hm⟩:=k0;exact DataW.trod_lt m _ _ _ hm
 have k1:=h1
 have lt1:∀ x ∈ p1,x.block < W.heap.size:=by obtain ⟨m,hm⟩:=k1;exact DataW.trod_lt m _ _ _ hm
 have k2:=h2
 have lt2:∀ x ∈ p2,x.block < W.heap.size:=by obtain ⟨m,hm⟩:=k2;exact DataW.trod_lt m _ _ _ hm
 have k3:=h3
 have lt3:∀ x ∈ p3,x.block < W.heap.size:=by obtain ⟨m,hm⟩:=k3;exact DataW.trod_lt m _ _ _ hm
 have hbulk:Rows.uptoBulkAll _≤1048576:=of_decide_eq_true hk
 simp only [List.append_nil,Rows.uptoBulkAll] at hbulk
 obtain ⟨a0,o0,w0,b0⟩:=opn_prg_v (hval 0 26 v0 rfl rfl) h0 (by omega)
 obtain ⟨a1,o1,w1,b1⟩:=opn_rl_v (hval 1 28 v1 rfl rfl) h1 (by omega)
 obtain ⟨a2,o2,b2⟩:=opn_il_v (hval 2 22 v2 rfl rfl) h2 (by omega)
 obtain ⟨a3,o3,b3⟩:=opn_il_v (hval 3 22 v3 rfl rfl) h3 (by omega)
 clear hA0 hval0
 refine (mu11_walk o0 o1 o2 o3 w0 w1 b0 (by omega) b2 b3).mono fun e W' ⟨he,bel⟩=>?_
 subst he
 exact ⟨_,rfl,_,_,_,[],_,[],hW',trodAll_mk1 (shut_bool Tryz.underlying4 _),(trodAll_cons_mk (Below.trod laidOut (by kernel_rfl) (of_decide_eq_true (by kernel_rfl)) k0 bel lt0) (trodAll_cons_mk (Below.trod laidOut (by kernel_rfl) (of_decide_eq_true (by kernel_rfl)) k1 bel lt1) (trodAll_cons_mk (Below.trod laidOut (by kernel_rfl) (of_decide_eq_true (by kernel_rfl)) k2 bel lt2) (trodAll_cons_mk (Below.trod laidOut (by kernel_rfl) (of_decide_eq_true (by kernel_rfl)) k3 bel lt3) trodAll_mk0)))),rfl,bel.frame _,fun h=>by cases h⟩
set_option maxHeartbeats 1000000 in
theorem closed:joinedFacts Tryz.prog 5 Tryz.f5 (Rows.OpenSpec.upto Rows.linprogMultipliersSpec).bare Rows.linprogMultipliersUptoRow = true:=by
 unfold joinedFacts
 repeat' (with_reducible refine andT ?_ ?_)
 any_goals (with_reducible exact mayEnter_)
 any_goals (rw [lifts_])
 any_goals (rw [make_])
 all_goals (as_aux_lemma=>kernel_rfl)
theorem proved:Rows.LinprogMultipliersUptoSaid:=
 OpenClaim.holds_of_cond 5 Tryz.f5 rfl rfl rfl rfl rfl rfl rfl ⟨rfl,rfl,rfl,rfl,rfl⟩ rfl rfl rfl rfl rfl (by as_aux_lemma=>kernel_rfl) Tryz.func5 closed
  (of_decide_eq_true (by as_aux_lemma=>kernel_rfl)) (by unfold Func.isWrapper;first | (rw [if_pos (by decide +kernel)];kernel_rfl) | (rw [if_neg (by decide +kernel)];exact ⟨rfl,rfl⟩))
  (fun os started H enc _ F=>lifted os started H enc F)
end Go.Proofs.YtfgkecffpkdjcaaGreat.linprogMultipliers
