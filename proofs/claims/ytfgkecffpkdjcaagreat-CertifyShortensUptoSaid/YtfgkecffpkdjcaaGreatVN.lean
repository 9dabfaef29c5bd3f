/- References 06 and 11 by the executor. -/
import Derived.Test.YtfgkecffpkdjcaaGreatVL
namespace Go.Proofs.YtfgkecffpkdjcaaGreat
open Go.RowKit Gm Go.Vx
set_option maxRecDepth 100000
theorem ent_no {es:List (Int × Rat)} {n k:Nat} (hk:k < es.length) (h:es.getD k (0,0) = (0,0)∨(es.getD k (0,0)).1 < 0∨(n:Int)≤(es.getD k (0,0)).1∨(es.getD k (0,0)).2 = 0∨(1≤k∧(es.getD k (0,0)).1≤(es.getD (k - 1) (0,0)).1)):pb (EntOk es n) = false:=pb_f.2 fun ha=>by
 obtain ⟨h1,h2,h3⟩:=ha.2 k hk
 rcases h with h | h | h | h | ⟨h,h4⟩
 ·rw [h] at h3;exact h3 rfl
 ·omega
 ·omega
 ·exact h3 h
 ·have:=ha.1 k h hk;omega
noncomputable def errR (r:LRow) (n:Nat):Int:=open Classical in if RowOk r n then 0 else 1
theorem errR_ok {r:LRow} {n:Nat} (h:RowOk r n):errR r n = 0:=if_pos h
theorem errR_no {r:LRow} {n:Nat} (h:¬ RowOk r n):errR r n = 1:=if_neg h
theorem errR_z {r:LRow} {n:Nat} (h:(errR r n != 0) = false):RowOk r n:=Classical.byContradiction fun hn=>by rw [errR_no hn] at h;cases h
theorem errR_nz {r:LRow} {n:Nat} (h:(errR r n != 0) = true):¬ RowOk r n:=fun hn=>by rw [errR_ok hn] at h;cases h
theorem dge (r s:Rat):decide (cmpR r s≥0) = pb (s≤r):=by
 rw [dec_pb];refine pb_congr ?_
 rw [← Rat.not_lt,← cmpR_lt];omega
theorem deq (r s:Rat):(cmpR r s == 0) = pb (r = s):=by
 refine (pb_of ?_).symm
 rw [beq_iff_eq]
 constructor
 ·intro h
  exact Rat.le_antisymm (Rat.not_lt.1 fun hh=>by have:=cmpR_gt.2 hh;omega) (Rat.not_lt.1 fun hh=>by have:=cmpR_lt.2 hh;omega)
 ·intro h
  subst h
  unfold cmpR;rw [if_neg (fun h=>Rat.lt_irrefl h),if_neg (fun h=>Rat.lt_irrefl h)]
set_option smartUnfolding false in
theorem wval_x (es:List (Int × Rat)) (K n:Nat) (hl:es.length≤1073741824) (hK:K≤1073741824):fnOk ⟨TT,specsOf [rRSign_s]⟩ Tryz.f184 [entsAv es K,.val (.int .i64 (n:Int))] (.val (.bool (pb (EntOk es n)))):=by
 (repeat((conv=>whnf);refine ajg ?_))<;>try(conv=>whnf)
 refine ⟨⟨Nat,fun k=>k≤es.length∧(∀ i,i < k→0≤(es.getD i (0,0)).1∧(es.getD i (0,0)).1 < n∧(es.getD i (0,0)).2≠0)∧∀ i,1≤i→i < k→(es.getD (i - 1) (0,0)).1 < (es.getD i (0,0)).1,fun k=>[.slot 5 (.val (.int .i64 (k:Int)))],fun k=>es.length - k,0⟩,0,⟨by omega,fun i h2=>by omega,fun i h1 h2=>by omega⟩,?_⟩
 conv=>whnf
 refine And.intro ?_ ?_
 ·all_goals(repeat' first|exact ayg|apply And.intro|exact azg|fail)
 conv=>whnf
 rintro k ⟨h2,h3,h3'⟩
 (repeat((conv=>whnf);refine ajg ?_))<;>try(conv=>whnf)
 refine And.intro (fun h4=>?_) (fun h4=>?_)
 ·have h5:(k:Int) < es.length:=of_decide_eq_true h4
  have w1:IntKind.i64.wrap ((k:Int) + 1) = (k:Int) + 1:=w64 (by omega) (by omega)
  have w2:1≤k→IntKind.i64.wrap ((k:Int) - 1) = (k:Int) - 1:=fun h=>w64 (by omega) (by omega)
  have no:=@ent_no es n k (by omega)
  have t2:(k:Int).toNat = k:=Int.toNat_natCast k
  have step:0≤(es.getD k (0,0)).1∧(es.getD k (0,0)).1 < n∧(es.getD k (0,0)).2≠0→(1≤k→(es.getD (k - 1) (0,0)).1 < (es.getD k (0,0)).1)→(k + 1≤es.length∧(∀ i,i < k + 1→0≤(es.getD i (0,0)).1∧(es.getD i (0,0)).1 < n∧(es.getD i (0,0)).2≠0)∧∀ i,1≤i→i < k + 1→(es.getD (i - 1) (0,0)).1 < (es.getD i (0,0)).1):=fun a1 a2=>by
   refine ⟨by omega,fun i hi=>?_,fun i hi1 hi=>?_⟩
   ·rcases Nat.lt_or_ge i k with hik | hik
    ·exact h3 i hik
    ·rw [show i = k by omega];exact a1
   ·rcases Nat.lt_or_ge i k with hik | hik
    ·exact h3' i hi1 hik
    ·rw [show i = k by omega];exact a2 (by omega)
  (repeat((conv=>whnf);refine ajg ?_))<;>try(conv=>whnf)
  refine And.intro (fun h6=>?_) (fun h6=>?_)
  ·(repeat((conv=>whnf);refine ajg ?_))<;>try(conv=>whnf)
   exact congrArg Value.bool (no (.inr (.inl (by have:=of_decide_eq_true h6;rw [t2] at this;exact this)))).symm
  (repeat((conv=>whnf);refine ajg ?_))<;>try(conv=>whnf)
  refine And.intro (fun h7=>?_) (fun h7=>?_)
  ·(repeat((conv=>whnf);refine ajg ?_))<;>try(conv=>whnf)
   exact congrArg Value.bool (no (.inr (.inr (.inl (by have:=of_decide_eq_true h7;rw [t2] at this;exact this))))).symm
  have a6:=of_decide_eq_false h6
  have a7:=of_decide_eq_false h7
  rw [t2] at a6 a7
  (repeat((conv=>whnf);refine ajg ?_))<;>try(conv=>whnf)
  refine And.intro (fun h8=>?_) (fun h8=>?_)
  ·have b1:=of_decide_eq_true h8
   have b2:=w2 (by omega)
   have t3:(IntKind.i64.wrap ((k:Int) - 1)).toNat = k - 1:=by rw [b2];omega
   (repeat((conv=>whnf);refine ajg ?_))<;>try(conv=>whnf)
   refine And.intro (fun h9=>?_) (fun h9=>?_)
   ·(repeat((conv=>whnf);refine ajg ?_))<;>try(conv=>whnf)
    exact congrArg Value.bool (no (.inr (.inr (.inr (.inr ⟨by omega,by have:=of_decide_eq_true h9;rw [t2,t3] at this;exact this⟩))))).symm
   have a9:=of_decide_eq_false h9
   rw [t2,t3] at a9
   (repeat((conv=>whnf);refine ajg ?_))<;>try(conv=>whnf)
   refine And.intro (fun h10=>?_) (fun h10=>?_)
   ·(repeat((conv=>whnf);refine ajg ?_))<;>try(conv=>whnf)
    exact congrArg Value.bool (no (.inr (.inr (.inr (.inl ((sgq _).1 h10)))))).symm
   (repeat((conv=>whnf);refine ajg ?_))<;>try(conv=>whnf)
   refine ⟨k + 1,step ⟨by omega,by omega,fun e=>by have:=(sgq _).2 e;rw [← t2] at this;rw [this] at h10;cases h10⟩ (fun _=>by omega),(show es.length - (k + 1) < es.length - k by omega),?_⟩
   conv=>whnf
   all_goals(repeat' first|exact ayg|apply And.intro|exact azg|fail)
  ·have b1:=of_decide_eq_false h8
   (repeat((conv=>whnf);refine ajg ?_))<;>try(conv=>whnf)
   refine And.intro (fun h10=>?_) (fun h10=>?_)
   ·(repeat((conv=>whnf);refine ajg ?_))<;>try(conv=>whnf)
    exact congrArg Value.bool (no (.inr (.inr (.inr (.inl ((sgq _).1 h10)))))).symm
   (repeat((conv=>whnf);refine ajg ?_))<;>try(conv=>whnf)
   refine ⟨k + 1,step ⟨by omega,by omega,fun e=>by have:=(sgq _).2 e;rw [← t2] at this;rw [this] at h10;cases h10⟩ (fun _=>by omega),(show es.length - (k + 1) < es.length - k by omega),?_⟩
   conv=>whnf
   all_goals(repeat' first|exact ayg|apply And.intro|exact azg|fail)
 ·have h5:¬ (k:Int) < es.length:=of_decide_eq_false h4
  (repeat((conv=>whnf);refine ajg ?_))<;>try(conv=>whnf)
  exact congrArg Value.bool (pb_t.2 ⟨fun i h1 hi=>h3' i h1 (by omega),fun i hi=>h3 i (by omega)⟩).symm
noncomputable def wval_s:PSpec Tryz.prog:=⟨184,ghSpec ((List (Int × Rat) × Nat) × Nat) (fun | ((c0,c1),c2)=>[entsAv c0 c1,.val (.int .i64 (c2:Int))]) (fun | ((c0,c1),_)=>c0.length≤1073741824∧c1≤1073741824) (fun | ((c0,_),c2)=>.val (.bool (pb (EntOk c0 c2)))),ghSpec_ok (fn:=Tryz.f184) (ctx_ok TT_ok [rRSign_s]) mixed_ok (by kernel_rfl) (fun | ((c0,c1),c2),hp=>wval_x c0 c1 c2 hp.1 hp.2),by kernel_rfl⟩
set_option smartUnfolding false in
theorem wcr_x (c:LCol) (K:Nat) (hK:K≤134217728):fnOk ⟨TT,specsOf [rRCmp_s]⟩ Tryz.f43 [.agg (colC c K)] (.val (.bool (pb (Crossed c)))):=by
 obtain ⟨cost,hl,lo,hu,up⟩:=c
 repeat' (first|(refine And.intro (fun _=>?_) (fun _=>?_))|((conv=>whnf);refine alg ?_))
 all_goals (try(conv=>whnf))
 all_goals (refine congrArg Value.bool (pb_of ?_).symm)
 all_goals (simp_all [Crossed,cmpR_gt])
noncomputable def wcr_s:PSpec Tryz.prog:=⟨43,ghSpec (LCol × Nat) (fun | (c0,c1)=>[.agg (colC c0 c1)]) (fun | (_,c1)=>c1≤134217728) (fun | (c0,_)=>.val (.bool (pb (Crossed c0)))),ghSpec_ok (fn:=Tryz.f43) (ctx_ok TT_ok [rRCmp_s]) mixed_ok (by kernel_rfl) (fun | (c0,c1),hp=>wcr_x c0 c1 hp),by kernel_rfl⟩
set_option smartUnfolding false in
theorem wrow_x (r:LRow) (n K:Nat) (hl:r.es.length≤1073741824) (hK:K≤1073741824):fnOk ⟨TT,specsOf [wval_s]⟩ Tryz.f149 [.agg (rowC r K),.val (.int .i64 (n:Int))] (.val (.int .i64 (errR r n))):=by
 repeat' (first|(refine And.intro (fun _=>?_) (fun _=>?_))|((conv=>whnf);refine alg ?_))
 all_goals (try(conv=>whnf))
 all_goals first
  | exact congrArg (Value.int IntKind.i64) (errR_no (fun h=>by have:=h.1;unfold SenseOk at this;grind)).symm
  | (refine ⟨((r.es,K),n),⟨⟨hl,hK⟩,And.intro (ents_fit r.es (Nat.le_refl K)) (And.intro rfl True.intro)⟩,?_⟩
     repeat' (first|(refine And.intro (fun _=>?_) (fun _=>?_))|((conv=>whnf);refine alg ?_))
     all_goals (try(conv=>whnf))
     all_goals first
      | exact congrArg (Value.int IntKind.i64) (errR_no (fun h=>pbn (by assumption) h.2)).symm
      | exact congrArg (Value.int IntKind.i64) (errR_ok ⟨by unfold SenseOk;grind,pbnf (by assumption)⟩).symm)
noncomputable def wrow_s:PSpec Tryz.prog:=⟨149,ghSpec ((LRow × Nat) × Nat) (fun | ((c0,c1),c2)=>[.agg (rowC c0 c2),.val (.int .i64 (c1:Int))]) (fun | ((c0,_),c2)=>c0.es.length≤1073741824∧c2≤1073741824) (fun | ((c0,c1),_)=>.val (.int .i64 (errR c0 c1))),ghSpec_ok (fn:=Tryz.f149) (ctx_ok TT_ok [wval_s]) mixed_ok (by kernel_rfl) (fun | ((c0,c1),c2),hp=>wrow_x c0 c1 c2 hp.1 hp.2),by kernel_rfl⟩
set_option smartUnfolding false in
theorem wvalid_x (p:Prg) (K:Nat) (hb:PB p K):fnOk ⟨TT,specsOf [wcr_s,wrow_s]⟩ Tryz.f85 [prgAv p K] (.val (.int .i64 (errV p))):=by
 have b1:=hb.c
 have b2:=hb.r
 have b4:=hb.hK
 have hzero:(h0:¬ (16384 < p.cols.length∨16384 < p.rows.length))→(∀ j,j < p.cols.length→¬ Crossed (p.col j))→(∀ i,i < p.rows.length→RowOk (p.row i) p.cols.length)→errV p = 0:=fun h0 h1 h2=>errV_zero.2 ⟨by omega,by omega,h1,h2⟩
 (repeat((conv=>whnf);refine ajg ?_))<;>try(conv=>whnf)
 refine And.intro (fun h1=>?_) (fun h1=>?_)
 ·(repeat((conv=>whnf);refine ajg ?_))<;>try(conv=>whnf)
  exact congrArg (Value.int IntKind.i64) (errV_lim (.inl (by have:=of_decide_eq_true h1;omega))).symm
 have h1':=of_decide_eq_false h1
 (repeat((conv=>whnf);refine ajg ?_))<;>try(conv=>whnf)
 refine And.intro (fun h2=>?_) (fun h2=>?_)
 ·(repeat((conv=>whnf);refine ajg ?_))<;>try(conv=>whnf)
  exact congrArg (Value.int IntKind.i64) (errV_lim (.inr (by have:=of_decide_eq_true h2;omega))).symm
 have h2':=of_decide_eq_false h2
 have hlim:¬ (16384 < p.cols.length∨16384 < p.rows.length):=by omega
 (repeat((conv=>whnf);refine ajg ?_))<;>try(conv=>whnf)
 refine ⟨⟨Nat,fun k=>k≤p.cols.length∧∀ j,j < k→¬ Crossed (p.col j),fun k=>[.slot 3 (.val (.int .i64 (k:Int)))],fun k=>p.cols.length - k,0⟩,0,⟨by omega,fun i h2=>by omega⟩,?_⟩
 conv=>whnf
 refine And.intro ?_ ?_
 ·all_goals(repeat' first|exact ayg|apply And.intro|exact azg|fail)
 conv=>whnf
 rintro k ⟨h3,h4⟩
 (repeat((conv=>whnf);refine ajg ?_))<;>try(conv=>whnf)
 refine And.intro (fun h5=>?_) (fun h5=>?_)
 ·have h6:(k:Int) < p.cols.length:=of_decide_eq_true h5
  have w1:IntKind.i64.wrap ((k:Int) + 1) = (k:Int) + 1:=w64 (by omega) (by omega)
  (repeat((conv=>whnf);refine ajg ?_))<;>try(conv=>whnf)
  refine ⟨(p.col k,K),⟨by omega,And.intro (col_fit (p.col k) (Nat.le_refl K)) True.intro⟩,?_⟩
  (repeat((conv=>whnf);refine ajg ?_))<;>try(conv=>whnf)
  refine And.intro (fun h7=>?_) (fun h7=>?_)
  ·(repeat((conv=>whnf);refine ajg ?_))<;>try(conv=>whnf)
   exact congrArg (Value.int IntKind.i64) (errV_cr hlim (j:=k) (by omega) (pb_t.1 h7)).symm
  ·(repeat((conv=>whnf);refine ajg ?_))<;>try(conv=>whnf)
   refine ⟨k + 1,⟨by omega,fun i hi=>?_⟩,(show p.cols.length - (k + 1) < p.cols.length - k by omega),?_⟩
   ·rcases Nat.lt_or_ge i k with hik | hik
    ·exact h4 i hik
    ·rw [show i = k by omega];exact pb_f.1 h7
   conv=>whnf
   all_goals(repeat' first|exact ayg|apply And.intro|exact azg|fail)
 have h6:¬ (k:Int) < p.cols.length:=of_decide_eq_false h5
 have hcr:∀ j,j < p.cols.length→¬ Crossed (p.col j):=fun j hj=>h4 j (by omega)
 (repeat((conv=>whnf);refine ajg ?_))<;>try(conv=>whnf)
 refine ⟨⟨Nat,fun k=>k≤p.rows.length∧∀ i,i < k→RowOk (p.row i) p.cols.length,fun k=>[.slot 4 (.val (.int .i64 (k:Int)))],fun k=>p.rows.length - k,0⟩,0,⟨by omega,fun i h2=>by omega⟩,?_⟩
 conv=>whnf
 refine And.intro ?_ ?_
 ·all_goals(repeat' first|exact ayg|apply And.intro|exact azg|fail)
 conv=>whnf
 rintro i ⟨h7,h8⟩
 (repeat((conv=>whnf);refine ajg ?_))<;>try(conv=>whnf)
 refine And.intro (fun h9=>?_) (fun h9=>?_)
 ·have h10:(i:Int) < p.rows.length:=of_decide_eq_true h9
  have w1:IntKind.i64.wrap ((i:Int) + 1) = (i:Int) + 1:=w64 (by omega) (by omega)
  have b3:=hb.e i
  (repeat((conv=>whnf);refine ajg ?_))<;>try(conv=>whnf)
  refine ⟨((p.row i,p.cols.length),K),⟨⟨Nat.le_trans b3 (by decide),Nat.le_trans b4 (by decide)⟩,And.intro (row_fit (p.row i) (Nat.le_refl K)) (And.intro rfl True.intro)⟩,?_⟩
  (repeat((conv=>whnf);refine ajg ?_))<;>try(conv=>whnf)
  refine And.intro (fun h11=>?_) (fun h11=>?_)
  ·have hn:=errR_nz h11
   (repeat((conv=>whnf);refine ajg ?_))<;>try(conv=>whnf)
   exact congrArg (Value.int IntKind.i64) ((errR_no hn).trans (errV_ro hlim hcr (i:=i) (by omega) hn).symm)
  (repeat((conv=>whnf);refine ajg ?_))<;>try(conv=>whnf)
  refine ⟨i + 1,⟨by omega,fun i' hi=>?_⟩,(show p.rows.length - (i + 1) < p.rows.length - i by omega),?_⟩
  ·rcases Nat.lt_or_ge i' i with hik | hik
   ·exact h8 i' hik
   ·rw [show i' = i by omega];exact errR_z h11
  conv=>whnf
  all_goals(repeat' first|exact ayg|apply And.intro|exact azg|fail)
 ·have h10:¬ (i:Int) < p.rows.length:=of_decide_eq_false h9
  (repeat((conv=>whnf);refine ajg ?_))<;>try(conv=>whnf)
  exact congrArg (Value.int IntKind.i64) (hzero hlim hcr fun i hi=>h8 i (by omega)).symm
noncomputable def wvalid_s:PSpec Tryz.prog:=⟨85,ghSpec (Prg × Nat) (fun | (c0,c1)=>[prgAv c0 c1]) (fun | (c0,c1)=>PB c0 c1) (fun | (c0,_)=>.val (.int .i64 (errV c0))),ghSpec_ok (fn:=Tryz.f85) (ctx_ok TT_ok [wcr_s,wrow_s]) mixed_ok (by kernel_rfl) (fun | (c0,c1),hp=>wvalid_x c0 c1 hp),by kernel_rfl⟩
end Go.Proofs.YtfgkecffpkdjcaaGreat
