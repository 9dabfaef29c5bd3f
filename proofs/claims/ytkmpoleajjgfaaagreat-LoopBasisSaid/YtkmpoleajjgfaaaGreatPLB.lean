/- LoopBasis: for every list of choices and every number the law returns true and leaves its arguments as they were. No condition beyond the form's own reach. -/
import Derived.Test.YtkmpoleajjgfaaaGreatQ13
import Derived.Test.YtkmpoleajjgfaaaGreatQ21
import Derived.Test.YtkmpoleajjgfaaaGreatQ2
namespace Go.Proofs.YtkmpoleajjgfaaaGreat.loopBasis
open Go.ChangeShapes Go.WideShapes Go.ChangeAt Go.RowKit Go.Joins Gm
theorem Jj:Tryz.prog.cellsOf 3=1:=by kernel_rfl
theorem Jk:Tryz.prog.bytesOf 3=8:=by kernel_rfl
set_option maxRecDepth 100000 in
/-- a list of choices that came in -/
theorem QF{H:Type}{enc:TypeId×Value->H}{W:World}{base:Nat}{v:Value}{d:DataW H}{p:List MemPlace}(hv:Value.okWide Tryz.prog W .any base 22 v)(h0:DataW.Trod enc Tryz.prog W 0 (fun _=>true) true 22 v d p)
 (hw:∀n∈d.weights Tryz.prog 22,n<=reachBytes):
 ∃A len c F,v= .slice A len c/\CL W A len F/\len<=140737488355328:=by
 obtain⟨a0,Xk,NN,rfl⟩:=okWide_slice Tryz.underlying22 hv;obtain⟨fuel,hf⟩:=h0;have h:DataW.trod enc Tryz.prog W 0 (fun _=>true) true fuel 22 [.slice a0 Xk NN]=some (d,p):=by simpa [Value.cells] using hf
 rcases open_ints Tryz.underlying22 Tryz.underlying3 Jj h with ⟨hcs,hx⟩|⟨a,len,cap,zs,hcs,_,hl,hm,hz,hx,hcell,JX⟩
 ·simp at hcs;exact⟨a0,Xk,NN,fun _=>0,rfl,fun h=>absurd h (by omega),by omega⟩
 ·simp at hcs;obtain⟨rfl,rfl,rfl⟩:=hcs;have hz':zs.length=NN:=by simpa using hz
  refine⟨some a,Xk,NN,fun k=>zs.getD k 0,rfl,fun hp=>?_,?_⟩
  ·obtain⟨b,off,spot⟩:=a;have h1:=hcell 0 (by omega);have hspot:spot=none:=by simpa [Addr.add] using World.cell?_spot h1
   subst hspot;refine⟨b,off,rfl,aG W _ (by simpa [Addr.add] using h1),fun k hk=>?_⟩;have h2:=hcell k (by omega)
   have he:(Addr.mk b off none).add k=⟨b,off+k,none⟩:=by
    unfold Addr.add;split
    ·next h0=>rw[h0];rfl
    ·rfl
   rw[he]at h2;exact h2
  ·obtain⟨elems,spare,rfl,hlen⟩:∃elems spare,d= .slice elems spare/\elems.length+spare.length=NN:=⟨_,_,congrArg Prod.fst hx,by simp only[lits,List.length_map,List.length_take,List.length_drop];omega⟩;have:=hw ((elems.length+spare.length)*Tryz.prog.bytesOf 3) (by simp[DataW.weights,Tryz.underlying22]);rw[Jk]at this;simp only[reachBytes]at this;omega
set_option maxRecDepth 100000 in
theorem lifted(os:Os)(started:os.Started)(H:Type)(enc:TypeId×Value->H):
 ReturnsInHanded {} Tryz.checked os 3 .any (Rows.loopBasisSpec.pre6 enc Tryz.prog Tryz.f3 Rows.loopBasisRow.domain false) (Rows.loopBasisSpec.post enc Tryz.prog Tryz.f3 false true false false):=by
 refine returnsInHanded_of_change_sized (C:=Tryz.checked) own started (by kernel_rfl) Tryz.func3
  (ChangeSpec.witness6 (enc:=enc) (C:=Tryz.checked) false ⟨#[],#[.slice none 0 0, .int .i64 0],[]⟩ 8 (by kernel_rfl) (by kernel_rfl) (by kernel_rfl) (by kernel_rfl)) ?_
 intro W base args ds gs before Tf hW hcnd Fc _;have hval:∀(j:Nat) t v,Tryz.f3.params[j]?=some t->args[j]?=some v->Value.okWide Tryz.prog W .any base t v:=Tf;have hW':=hW;obtain⟨p,q,SH,hV,rfl,hfz,hnd⟩:=hW;have hA:DataW.TrodAll enc Tryz.prog W 0 (fun _=>true) true Tryz.f3.params.toList args.toList ds p:=SH;have hsz:(DataW.weightsEach Tryz.prog (Tryz.f3.params.toList++Rows.loopBasisSpec.plain.varTypes Tryz.prog) (ds++gs)).all (·<=reachBytes)=true:=Fc;rw[Tryz.params3]at hA hval hsz;obtain⟨v0,vs0,d0,ds0,p0,q0,hargs,rfl,rfl,h0,r0⟩:=trodAll_cons hA;obtain⟨v1,vs1,d1,ds1,p1,q1,rfl,rfl,rfl,h1,r1⟩:=trodAll_cons r0;obtain⟨rfl,rfl,rfl⟩:=trodAll_nil r1;obtain rfl:args=#[v0,v1]:=by cases args;simp_all
 obtain⟨rfl,rfl⟩:=trodVars_none hV;have k0:=h0;have lt0:∀x∈p0,x.block<W.heap.size:=by obtain⟨m,hm⟩:=k0;exact DataW.trod_lt m _ _ _ hm
 obtain⟨A,len,c,F,rfl,hcl,hlen⟩:=QF (hval 0 22 v0 rfl rfl) h0 (Hg hsz (j:=0) rfl rfl);obtain⟨a1,rfl,rfl,rfl,w1⟩:=open_int Tryz.underlying3 (hval 1 3 v1 rfl rfl) h1;clear SH Tf;refine(Cj (kk:=a1) hcl hlen).mono fun e W' ⟨he,mH⟩=>?_;subst he;exact⟨_,rfl,_,_,_,[],_,[],hW',trodAll_mk1 (shut_bool Tryz.underlying4 _),(trodAll_cons_mk (Below.trod laidOut (by kernel_rfl) (of_decide_eq_true (by kernel_rfl)) k0 mH lt0) (trodAll_cons_mk (shut_int Tryz.underlying3 w1) trodAll_mk0)),rfl,mH.frame _,fun h=>by cases h⟩
set_option maxHeartbeats 1000000 in
theorem closed:joinedFacts Tryz.prog 3 Tryz.f3 Rows.loopBasisSpec Rows.loopBasisRow=true:=by
 unfold joinedFacts
 repeat' (with_reducible refine anf ?_ ?_)
 any_goals (with_reducible exact Ji)
 any_goals (rw[VY])
 any_goals (rw[ac0])
 all_goals (as_aux_lemma=>kernel_rfl)
theorem proved:Rows.LoopBasisSaid:=
 OpenClaim.holds_of_wide 3 Tryz.f3 rfl rfl rfl rfl rfl rfl rfl ⟨rfl,rfl,rfl,rfl,rfl⟩ rfl rfl rfl rfl rfl (by as_aux_lemma=>kernel_rfl) Tryz.func3 closed
  (of_decide_eq_true (by as_aux_lemma=>kernel_rfl)) (by unfold Func.isWrapper;first|(rw[if_pos (by decide+kernel)];kernel_rfl)|(rw[if_neg (by decide+kernel)];exact⟨rfl,rfl⟩))
  (fun os started H enc _=>lifted os started H enc)
end Go.Proofs.YtkmpoleajjgfaaaGreat.loopBasis
