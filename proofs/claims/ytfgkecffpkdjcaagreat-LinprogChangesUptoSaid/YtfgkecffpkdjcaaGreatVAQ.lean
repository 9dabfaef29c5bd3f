/- Package linprog: Append as a call that makes a new row; Tighten; by the executor. -/
import Derived.Test.YtfgkecffpkdjcaaGreatVAP
import Derived.Test.YtfgkecffpkdjcaaGreatVEQ
namespace Go.Proofs.YtfgkecffpkdjcaaGreat
open Go.RowKit Gm Go.Vx
set_option maxRecDepth 100000
theorem rowsA_fit (l:List LRow) (K:Nat):fitC (rowsAv l K) (.cons (rowsAv l K) .nil):=And.intro rfl (And.intro rfl fun _ _=>row_fit _ (Nat.le_refl K))
/-- Append of nothing: its columns are a new row -/
def spApp (T:Nat):Go.Vx.Spec
 | [.agg (.cons (.list s1 n1 f1) (.cons (.list s2 n2 f2) .nil)),.val (.slice none 0 0)]=>.row (some (∃ (p:Prg) (K:Nat),PB p K∧s1 = 11∧n1 = p.cols.length∧f1 = (fun j=>colC (p.cols.getD j colZ) K)∧s2 = 5∧n2 = p.rows.length∧f2 = (fun i=>rowC (p.rows.getD i rowZ) K))) T 11 n1 f1 (.cons (.list 5 n2 f2) .nil)
 | _=>.no
theorem spApp_ok {P:Program} {C:Ctx} {f:FuncId} {fn:Func} {T:Nat} (hC:CtxOk P C) (hm:P.follows .mixedOrders = true) (hf:P.funcs[f]? = some fn)
  (h:∀ (p:Prg) (K:Nat),PB p K→fnOkR C fn [prgAv p K,rowsAv [] K] T 11 p.cols.length (colF p K) (.cons (rowsAv (p.rows ++ []) K) .nil)):SpecOk P f (spApp T):=by
 intro own w vs xs hown ha
 generalize e:spApp T vs = z
 unfold spApp at e
 split at e
 ·subst e
  rintro ⟨p,K,hb,rfl,rfl,rfl,rfl,rfl,rfl⟩
  have h2:=h p K hb
  rw [List.append_nil] at h2
  refine fn_okR hC hm hf h2 hown (fits_ok (ws:=[prgAv p K,rowsAv [] K]) ?_ ha)
  exact And.intro (prg_fit p (Nat.le_refl K)) (And.intro rfl True.intro)
 ·subst e;trivial
/-- what Tighten gives: an error and a program -/
def TigOk (p:Prg) (j:Int) (c:LCol) (e:Int) (q:Prg):Prop:=
 ((j < 0∨(p.cols.length:Int)≤j)∧e = 12∧q = ⟨[],[]⟩)∨(0≤j∧j < p.cols.length∧Crossed c∧e = 3∧q = ⟨[],[]⟩)∨(0≤j∧j < p.cols.length∧¬ Crossed c∧e = 0∧q = ⟨p.cols.set j.toNat c,p.rows⟩)
theorem setC_fit {l:List LCol} {c:LCol} {K j:Nat}:∀ i,i < l.length→fitC (colC ((l.set j c).getD i colZ) K) (if i = j then colC c K else colC (l.getD i colZ) K):=fun i hi=>by
 by_cases h:i = j
 ·subst h
  have e:(l.set i c).getD i colZ = c:=by simp [List.getD_eq_getElem?_getD,hi]
  rw [if_pos rfl,e];exact col_fit _ (Nat.le_refl K)
 ·have e:(l.set j c).getD i colZ = l.getD i colZ:=by simp [List.getD_eq_getElem?_getD,Ne.symm h]
  rw [if_neg h,e];exact col_fit _ (Nat.le_refl K)
set_option smartUnfolding false in
theorem lapr_x (p:Prg) (R:List LRow) (K:Nat) (hb:PB p K) (hR:R.length≤1048576) (he:∀ i,(R.getD i rowZ).es.length≤1048576):fnOkR ⟨TT,specsOf [ccol_s,crow_s]⟩ Tryz.f39 [prgAv p K,rowsAv R K] 61 11 (p.cols.length) (colF p K) (.cons (rowsAv (p.rows ++ R) K) .nil):=by
 have b1:=hb.c
 have b2:=hb.r
 have b4:=hb.hK
 have hl:(p.rows ++ R).length = p.rows.length + R.length:=List.length_append
 have hee:∀ i,((p.rows ++ R).getD i rowZ).es.length≤1048576:=fun i=>rows_es hb.e he i
 have w2:IntKind.i64.wrap ((p.rows.length:Int) + (R.length:Int)) = (p.rows.length:Int) + (R.length:Int):=w64 (by omega) (by omega)
 (repeat((conv=>whnf);refine aig ?_))<;>try(conv=>whnf)
 refine ⟨⟨Nat,fun k=>k≤p.cols.length,fun k=>[.slot 19 (.val (.int .i64 (k:Int))),.mod 12 61 11 p.cols.length (colF p K)],fun k=>p.cols.length - k,0⟩,0,Nat.zero_le _,?_⟩
 conv=>whnf
 refine And.intro ?_ ?_
 ·all_goals(repeat' first|exact ayg|apply And.intro|exact azg|fail)
  exact colF_in _ _ _ _ (by omega)
 conv=>whnf
 rintro k h3
 (repeat((conv=>whnf);refine aig ?_))<;>try(conv=>whnf)
 refine And.intro (fun h5=>?_) (fun h5=>?_)
 ·have h6:(k:Int) < p.cols.length:=of_decide_eq_true h5
  have w1:IntKind.i64.wrap ((k:Int) + 1) = (k:Int) + 1:=w64 (by omega) (by omega)
  (repeat((conv=>whnf);refine aig ?_))<;>try(conv=>whnf)
  refine ⟨(p.col k,K),⟨b4,And.intro (col_fit _ (Nat.le_refl K)) True.intro⟩,?_⟩
  (repeat((conv=>whnf);refine aig ?_))<;>try(conv=>whnf)
  refine ⟨k + 1,(show k + 1≤p.cols.length by omega),(show p.cols.length - (k + 1) < p.cols.length - k by omega),?_⟩
  conv=>whnf
  all_goals(repeat' first|exact ayg|apply And.intro|exact azg|fail)
  exact colF_up _ _ _ _
 have h6:¬ (k:Int) < p.cols.length:=of_decide_eq_false h5
 obtain rfl:k = p.cols.length:=by omega
 (repeat((conv=>whnf);refine aig ?_))<;>try(conv=>whnf)
 refine ⟨⟨Nat,fun k=>k≤p.rows.length + R.length,fun k=>[.slot 48 (.val (.int .i64 (k:Int))),.mod 37 56 5 (p.rows.length + R.length) (rowF (p.rows ++ R) K)],fun k=>p.rows.length + R.length - k,0⟩,0,Nat.zero_le _,?_⟩
 conv=>whnf
 refine And.intro ?_ ?_
 ·all_goals(repeat' first|exact ayg|apply And.intro|exact azg|fail)
  exact rowF_in _ _ _ _ _ _ _ rfl (by omega) (by omega) (by omega)
 conv=>whnf
 rintro k h3
 (repeat((conv=>whnf);refine aig ?_))<;>try(conv=>whnf)
 refine And.intro (fun h5=>?_) (fun h5=>?_)
 ·have h6:(k:Int) < ((IntKind.i64.wrap ((p.rows.length:Int) + (R.length:Int))).toNat:Int):=of_decide_eq_true h5
  have w1:IntKind.i64.wrap ((k:Int) + 1) = (k:Int) + 1:=w64 (by omega) (by omega)
  have hek:=hee k
  (repeat((conv=>whnf);refine aig ?_))<;>try(conv=>whnf)
  refine ⟨((p.rows ++ R).getD k rowZ,K),⟨⟨hek,b4⟩,And.intro (row_fit _ (Nat.le_refl K)) True.intro⟩,?_⟩
  (repeat((conv=>whnf);refine aig ?_))<;>try(conv=>whnf)
  refine ⟨k + 1,(show k + 1≤p.rows.length + R.length by omega),(show p.rows.length + R.length - (k + 1) < p.rows.length + R.length - k by omega),?_⟩
  conv=>whnf
  all_goals(repeat' first|exact ayg|apply And.intro|exact azg|fail)
  exact rowF_up _ _ _ _
 have h6:¬ (k:Int) < ((IntKind.i64.wrap ((p.rows.length:Int) + (R.length:Int))).toNat:Int):=of_decide_eq_false h5
 obtain rfl:k = p.rows.length + R.length:=by omega
 (repeat((conv=>whnf);refine aig ?_))<;>try(conv=>whnf)
 all_goals(repeat' first|exact ayg|apply And.intro|exact azg|fail)
 all_goals first | exact fun _ _=>col_fit _ (Nat.le_refl K) | exact fun _ _=>row_fit _ (Nat.le_refl K) | exact hl.symm | (trace_state;sorry)
noncomputable def lapr_s:PSpec Tryz.prog:=⟨39,spApp 61,spApp_ok (ctx_ok TT_ok [ccol_s,crow_s]) mixed_ok (fn:=Tryz.f39) (by kernel_rfl) (fun p K hb=>lapr_x p [] K hb (Nat.zero_le _) (fun _=>Nat.zero_le _)),by kernel_rfl⟩
set_option smartUnfolding false in
theorem ltig_x (p:Prg) (j:Int) (c:LCol) (K:Nat) (e:Int) (q:Prg) (hb:PB p K) (hv:Vld p) (ht:TigOk p j c e q):fnOk ⟨TT,specsOf [lval_s,lcr_s,lapr_s,ccol_s]⟩ Tryz.f42 [prgAv p K,.val (.int .i64 j),.agg (colC c K)] (.tup (.cons (prgAv q K) (.cons (.val (.int .i64 e)) .nil))):=by
 have b1:=hb.c
 have b4:=hb.hK
 have e0:errV p = 0:=errV_zero.2 hv
 (repeat((conv=>whnf);refine aig ?_))<;>try(conv=>whnf)
 refine ⟨(p,K),⟨hb,And.intro (prg_fit p (Nat.le_refl K)) True.intro⟩,?_⟩
 (repeat((conv=>whnf);refine aig ?_))<;>try(conv=>whnf)
 refine And.intro (fun h=>absurd h (by show ¬ (errV p != 0) = true;rw [e0];decide)) (fun _=>?_)
 rcases ht with ⟨h1,rfl,rfl⟩ | ⟨h1,h2,h3,rfl,rfl⟩ | ⟨h1,h2,h3,rfl,rfl⟩
 ·rcases h1 with h1 | h1
  ·(repeat' (first | (refine And.intro (fun h=>?_) (fun _=>?_);focus (exfalso;revert h;first | decide | (simp;done) | (simp [h1];done))) | (refine And.intro (fun _=>?_) (fun h=>?_);rotate_left;focus (exfalso;revert h;first | decide | (simp;done) | (simp [h1];done))) | ((conv=>whnf);refine aig ?_) | fail))<;>try (conv=>whnf)
   all_goals(repeat' first|exact ayg|apply And.intro|exact azg|fail)
  ·have h0:¬ j < 0:=by omega
   (repeat' (first | (refine And.intro (fun h=>?_) (fun _=>?_);focus (exfalso;revert h;first | decide | (simp;done) | (simp [h0];done) | (simp [h1];done))) | (refine And.intro (fun _=>?_) (fun h=>?_);rotate_left;focus (exfalso;revert h;first | decide | (simp;done) | (simp [h0];done) | (simp [h1];done))) | ((conv=>whnf);refine aig ?_) | fail))<;>try (conv=>whnf)
   all_goals(repeat' first|exact ayg|apply And.intro|exact azg|fail)
 ·have h4:¬ j < 0:=by omega
  have h5:¬ (p.cols.length:Int)≤j:=by omega
  have h6:=pb_t.2 h3
  (repeat' (first | (refine And.intro (fun h=>?_) (fun _=>?_);focus (exfalso;revert h;first | decide | (simp;done) | (simp [h4];done) | (simp [h5];done) | (simp [h6];done))) | (refine And.intro (fun _=>?_) (fun h=>?_);rotate_left;focus (exfalso;revert h;first | decide | (simp;done) | (simp [h4];done) | (simp [h5];done) | (simp [h6];done))) | ((conv=>whnf);refine aig ?_) | fail))<;>try (conv=>whnf)
  refine ⟨(c,K),⟨by omega,And.intro (col_fit c (Nat.le_refl K)) True.intro⟩,?_⟩
  (repeat' (first | (refine And.intro (fun h=>?_) (fun _=>?_);focus (exfalso;revert h;first | decide | (simp;done) | (simp [h4];done) | (simp [h5];done) | (simp [h6];done))) | (refine And.intro (fun _=>?_) (fun h=>?_);rotate_left;focus (exfalso;revert h;first | decide | (simp;done) | (simp [h4];done) | (simp [h5];done) | (simp [h6];done))) | ((conv=>whnf);refine aig ?_) | fail))<;>try (conv=>whnf)
  all_goals(repeat' first|exact ayg|apply And.intro|exact azg|fail)
 ·have h4:¬ j < 0:=by omega
  have h5:¬ (p.cols.length:Int)≤j:=by omega
  have h6:=pb_f.2 h3
  (repeat' (first | (refine And.intro (fun h=>?_) (fun _=>?_);focus (exfalso;revert h;first | decide | (simp;done) | (simp [h4];done) | (simp [h5];done) | (simp [h6];done))) | (refine And.intro (fun _=>?_) (fun h=>?_);rotate_left;focus (exfalso;revert h;first | decide | (simp;done) | (simp [h4];done) | (simp [h5];done) | (simp [h6];done))) | ((conv=>whnf);refine aig ?_) | fail))<;>try (conv=>whnf)
  refine ⟨(c,K),⟨by omega,And.intro (col_fit c (Nat.le_refl K)) True.intro⟩,?_⟩
  (repeat' (first | (refine And.intro (fun h=>?_) (fun _=>?_);focus (exfalso;revert h;first | decide | (simp;done) | (simp [h4];done) | (simp [h5];done) | (simp [h6];done))) | (refine And.intro (fun _=>?_) (fun h=>?_);rotate_left;focus (exfalso;revert h;first | decide | (simp;done) | (simp [h4];done) | (simp [h5];done) | (simp [h6];done))) | ((conv=>whnf);refine aig ?_) | fail))<;>try (conv=>whnf)
  refine And.intro ⟨p,K,hb,rfl,rfl,rfl,rfl,rfl,rfl⟩ ?_
  (repeat((conv=>whnf);refine aig ?_))<;>try(conv=>whnf)
  refine ⟨(c,K),⟨by omega,And.intro (col_fit c (Nat.le_refl K)) True.intro⟩,?_⟩
  (repeat((conv=>whnf);refine aig ?_))<;>try(conv=>whnf)
  all_goals(repeat' first|exact ayg|apply And.intro|exact azg|fail)
  all_goals first | exact (List.length_set ..).symm | exact fun i hi=>setC_fit i (by simpa using hi) | exact fun _ _=>row_fit _ (Nat.le_refl K)
noncomputable def ltig_s:PSpec Tryz.prog:=⟨42,ghSpec (((((Prg × Int) × LCol) × Nat) × Int) × Prg) (fun | (((((c0,c1),c2),c3),_),_)=>[prgAv c0 c3,.val (.int .i64 c1),.agg (colC c2 c3)]) (fun | (((((c0,c1),c2),c3),c4),c5)=>PB c0 c3∧Vld c0∧TigOk c0 c1 c2 c4 c5) (fun | (((((_,_),_),c3),c4),c5)=>.tup (.cons (prgAv c5 c3) (.cons (.val (.int .i64 c4)) .nil))),ghSpec_ok (fn:=Tryz.f42) (ctx_ok TT_ok [lval_s,lcr_s,lapr_s,ccol_s]) mixed_ok (by kernel_rfl) (fun | (((((c0,c1),c2),c3),c4),c5),hp=>ltig_x c0 c1 c2 c3 c4 c5 hp.1 hp.2.1 hp.2.2),by kernel_rfl⟩
end Go.Proofs.YtfgkecffpkdjcaaGreat
