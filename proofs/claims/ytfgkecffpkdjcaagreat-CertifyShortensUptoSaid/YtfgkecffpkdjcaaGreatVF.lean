/- Package certify and its reference by the executor: Optimal, AtLeast, Infeasible, Unbounded. -/
import Derived.Test.YtfgkecffpkdjcaaGreatVO
import Derived.Test.YtfgkecffpkdjcaaGreatVX
namespace Go.Proofs.YtfgkecffpkdjcaaGreat
open Go.RowKit Gm Go.Vx
set_option maxRecDepth 100000
def AtL (p:Prg) (y:List Rat) (v:Rat):Prop:=BndOk p y∧v≤bnd p y
def partF (A:Nat→Av) (Z:Av) (k i:Nat):Av:=if i < k then A i else Z
theorem partF_zero {A:Nat→Av} {Z:Av} {n:Nat} (h:∀ i,i < n→fitC Z Z):∀ i,i < n→fitC (partF A Z 0 i) Z:=fun i hi=>h i hi
theorem partF_step {A:Nat→Av} {Z X:Av} {k n j:Nat} (hj:j = k) (hX:fitC (A k) X) (hA:∀ i,i < n→fitC (A i) (A i)) (hZ:fitC Z Z):∀ i,i < n→fitC (partF A Z (k + 1) i) (if i = j then X else partF A Z k i):=by
 intro i hi
 subst hj
 by_cases h:i = j
 ·subst h
  rw [if_pos rfl];unfold partF;rw [if_pos (by omega)];exact hX
 ·rw [if_neg h]
  unfold partF
  by_cases h2:i < j
  ·rw [if_pos h2,if_pos (by omega)];exact hA i hi
  ·rw [if_neg h2,if_neg (by omega)];exact hZ
theorem partF_done {A B:Nat→Av} {Z:Av} {n:Nat} (h:∀ i,i < n→fitC (B i) (A i)):∀ i,i < n→fitC (B i) (partF A Z n i):=by
 intro i hi
 unfold partF;rw [if_pos hi];exact h i hi
def zeroC:Av:=.cons (.kb false) (.cons (.val (.slice none 0 0)) (.cons (.val (.slice none 0 0)) (.cons (.kb false) (.cons (.kb false) (.cons (.val (.slice none 0 0)) (.cons (.val (.slice none 0 0)) (.cons (.kb false) (.cons (.kb false) (.cons (.val (.slice none 0 0)) (.cons (.val (.slice none 0 0)) .nil))))))))))
theorem zeroC_fit:fitC zeroC zeroC:=And.intro rfl (And.intro rfl (And.intro rfl (And.intro rfl (And.intro rfl (And.intro rfl (And.intro rfl (And.intro rfl (And.intro rfl (And.intro rfl (And.intro rfl True.intro))))))))))
set_option smartUnfolding false in
theorem catl_x (p:Prg) (y:List Rat) (v:Rat) (K M:Nat) (hy:PY p y K M):fnOk ⟨TT,specsOf [lbnd_s,RCmp_s]⟩ Tryz.f51 [prgAv p K,rlAv y K,rAv v K] (.val (.bool (pb (AtL p y v)))):=by
 have b4:=hy.b.hK
 have b5:=hy.hM
 by_cases hb:BndOk p y
 ·(repeat((conv=>whnf);refine ajg ?_))<;>try(conv=>whnf)
  refine ⟨((((p,y),K),M),true),⟨⟨hy,by simpa using hb⟩,And.intro (prg_fit p (Nat.le_refl K)) (And.intro (rl_fit y (Nat.le_refl K)) True.intro)⟩,?_⟩
  (repeat((conv=>whnf);refine ajg ?_))<;>try(conv=>whnf)
  refine congrArg Value.bool ((dge _ _).trans (pb_congr ⟨fun h=>⟨hb,h⟩,fun h=>h.2⟩))
 ·(repeat((conv=>whnf);refine ajg ?_))<;>try(conv=>whnf)
  refine ⟨((((p,y),K),M),false),⟨⟨hy,by simpa using hb⟩,And.intro (prg_fit p (Nat.le_refl K)) (And.intro (rl_fit y (Nat.le_refl K)) True.intro)⟩,?_⟩
  (repeat((conv=>whnf);refine ajg ?_))<;>try(conv=>whnf)
  exact congrArg Value.bool (pb_f.2 fun h=>hb h.1).symm
noncomputable def catl_s:PSpec Tryz.prog:=⟨51,ghSpec ((((Prg × List Rat) × Rat) × Nat) × Nat) (fun | ((((c0,c1),c2),c3),_)=>[prgAv c0 c3,rlAv c1 c3,rAv c2 c3]) (fun | ((((c0,c1),_),c3),c4)=>PY c0 c1 c3 c4) (fun | ((((c0,c1),c2),_),_)=>.val (.bool (pb (AtL c0 c1 c2)))),ghSpec_ok (fn:=Tryz.f51) (ctx_ok TT_ok [lbnd_s,RCmp_s]) mixed_ok (by kernel_rfl) (fun | ((((c0,c1),c2),c3),c4),hp=>catl_x c0 c1 c2 c3 c4 hp),by kernel_rfl⟩
set_option smartUnfolding false in
theorem copt_x (p:Prg) (x y:List Rat) (K M:Nat) (hx:PX p x K M) (hy:PY p y K M):fnOk ⟨TT,specsOf [lfea_s,lbnd_s,lobj_s,RCmp_s]⟩ Tryz.f47 [prgAv p K,rlAv x K,rlAv y K] (.val (.bool (pb (Opt p x y)))):=by
 have b4:=hy.b.hK
 have b5:=hy.hM
 (repeat((conv=>whnf);refine ajg ?_))<;>try(conv=>whnf)
 refine ⟨(((p,x),K),M),⟨hx,And.intro (prg_fit p (Nat.le_refl K)) (And.intro (rl_fit x (Nat.le_refl K)) True.intro)⟩,?_⟩
 (repeat((conv=>whnf);refine ajg ?_))<;>try(conv=>whnf)
 refine And.intro (fun h1=>?_) (fun h1=>?_)
 ·(repeat((conv=>whnf);refine ajg ?_))<;>try(conv=>whnf)
  exact congrArg Value.bool (pb_f.2 fun h=>pbn h1 h.1).symm
 have hf:Feas p x:=pbnf h1
 have he:errC p x.length p.cols.length = 0:=errC_zero.2 ⟨hf.v,hf.n⟩
 by_cases hb:BndOk p y
 ·(repeat((conv=>whnf);refine ajg ?_))<;>try(conv=>whnf)
  refine ⟨((((p,y),K),M),true),⟨⟨hy,by simpa using hb⟩,And.intro (prg_fit p (Nat.le_refl K)) (And.intro (rl_fit y (Nat.le_refl K)) True.intro)⟩,?_⟩
  (repeat((conv=>whnf);refine ajg ?_))<;>try(conv=>whnf)
  refine ⟨((((p,x),K),M),true),⟨⟨hx,by simpa using he⟩,And.intro (prg_fit p (Nat.le_refl K)) (And.intro (rl_fit x (Nat.le_refl K)) True.intro)⟩,?_⟩
  (repeat((conv=>whnf);refine ajg ?_))<;>try(conv=>whnf)
  exact congrArg Value.bool ((deq _ _).trans (pb_congr ⟨fun h=>⟨hf,hb,h⟩,fun h=>h.2.2⟩))
 ·(repeat((conv=>whnf);refine ajg ?_))<;>try(conv=>whnf)
  refine ⟨((((p,y),K),M),false),⟨⟨hy,by simpa using hb⟩,And.intro (prg_fit p (Nat.le_refl K)) (And.intro (rl_fit y (Nat.le_refl K)) True.intro)⟩,?_⟩
  (repeat((conv=>whnf);refine ajg ?_))<;>try(conv=>whnf)
  exact congrArg Value.bool (pb_f.2 fun h=>hb h.2.1).symm
noncomputable def copt_s:PSpec Tryz.prog:=⟨47,ghSpec ((((Prg × List Rat) × List Rat) × Nat) × Nat) (fun | ((((c0,c1),c2),c3),_)=>[prgAv c0 c3,rlAv c1 c3,rlAv c2 c3]) (fun | ((((c0,c1),c2),c3),c4)=>PX c0 c1 c3 c4∧PY c0 c2 c3 c4) (fun | ((((c0,c1),c2),_),_)=>.val (.bool (pb (Opt c0 c1 c2)))),ghSpec_ok (fn:=Tryz.f47) (ctx_ok TT_ok [lfea_s,lbnd_s,lobj_s,RCmp_s]) mixed_ok (by kernel_rfl) (fun | ((((c0,c1),c2),c3),c4),hp=>copt_x c0 c1 c2 c3 c4 hp.1 hp.2),by kernel_rfl⟩
set_option smartUnfolding false in
theorem cinf_x (p:Prg) (y:List Rat) (K M:Nat) (hy:PY p.free y K M) (h2K:2≤K):fnOk ⟨TT,specsOf [RFI_s,lbnd_s,RSign_s]⟩ Tryz.f61 [prgAv p K,rlAv y K] (.val (.bool (pb (Infs p y)))):=by
 have b0:p.cols.length≤1048576:=by rw [← free_len];exact hy.b.c
 have b4:=hy.b.hK
 have b5:=hy.hM
 have hcol:∀ j,fitC (colC (p.free.col j) K) (.cons (.ratC (mkRat 0 1) 2) (.cons (.val (.bool (p.col j).hl)) (.cons (.rat (p.col j).lo K) (.cons (.val (.bool (p.col j).hu)) (.cons (.rat (p.col j).up K) .nil))))):=fun j=>by
  rw [free_col]
  exact And.intro (And.intro rfl (.inl h2K)) (And.intro rfl (And.intro (And.intro rfl (Nat.le_refl K)) (And.intro rfl (And.intro (And.intro rfl (Nat.le_refl K)) True.intro))))
 (repeat((conv=>whnf);refine ajg ?_))<;>try(conv=>whnf)
 refine ⟨⟨Nat,fun k=>k≤p.cols.length,fun k=>[.slot 20 (.val (.int .i64 (k:Int))),.mod 13 61 11 p.cols.length (partF (fun j=>colC (p.free.col j) K) zeroC k)],fun k=>p.cols.length - k,0⟩,0,Nat.zero_le _,?_⟩
 conv=>whnf
 refine And.intro ?_ ?_
 ·all_goals(repeat' first|exact ayg|apply And.intro|exact azg|fail)
  exact partF_zero fun _ _=>zeroC_fit
 conv=>whnf
 rintro k h2
 (repeat((conv=>whnf);refine ajg ?_))<;>try(conv=>whnf)
 refine And.intro (fun h5=>?_) (fun h5=>?_)
 ·have h6r:=of_decide_eq_true h5
  have h6:(k:Int) < p.cols.length:=h6r
  have w1:IntKind.i64.wrap ((k:Int) + 1) = (k:Int) + 1:=w64 (by omega) (by omega)
  (repeat((conv=>whnf);refine ajg ?_))<;>try(conv=>whnf)
  refine ⟨k + 1,(show k + 1≤p.cols.length by omega),(show p.cols.length - (k + 1) < p.cols.length - k by omega),?_⟩
  conv=>whnf
  all_goals(repeat' first|exact ayg|apply And.intro|exact azg|fail)
  exact partF_step (j:=k) rfl (hcol k) (fun _ _=>col_fit _ (Nat.le_refl K)) zeroC_fit
 have h6:=of_decide_eq_false h5
 obtain rfl:k = p.cols.length:=by omega
 have hfit:Go.Vx.fits [prgAv p.free K,rlAv y K] [.agg (.cons (.list 11 p.cols.length (partF (fun j=>colC (p.free.col j) K) zeroC p.cols.length)) (.cons (rowsAv p.rows K) .nil)),rlAv y K]:=by
  refine And.intro (And.intro (And.intro rfl (And.intro (free_len p).symm ?_)) (And.intro (And.intro rfl (And.intro rfl fun _ _=>row_fit _ (Nat.le_refl K))) True.intro)) (And.intro (rl_fit y (Nat.le_refl K)) True.intro)
  rw [free_len]
  exact partF_done fun _ _=>col_fit _ (Nat.le_refl K)
 by_cases hb:BndOk p.free y
 ·(repeat((conv=>whnf);refine ajg ?_))<;>try(conv=>whnf)
  refine ⟨((((p.free,y),K),M),true),⟨⟨hy,by simpa using hb⟩,hfit⟩,?_⟩
  (repeat((conv=>whnf);refine ajg ?_))<;>try(conv=>whnf)
  exact congrArg Value.bool ((sgt _).trans (pb_congr ⟨fun h=>⟨hb,h⟩,fun h=>h.2⟩))
 ·(repeat((conv=>whnf);refine ajg ?_))<;>try(conv=>whnf)
  refine ⟨((((p.free,y),K),M),false),⟨⟨hy,by simpa using hb⟩,hfit⟩,?_⟩
  (repeat((conv=>whnf);refine ajg ?_))<;>try(conv=>whnf)
  exact congrArg Value.bool (pb_f.2 fun h=>hb h.1).symm
noncomputable def cinf_s:PSpec Tryz.prog:=⟨61,ghSpec (((Prg × List Rat) × Nat) × Nat) (fun | (((c0,c1),c2),_)=>[prgAv c0 c2,rlAv c1 c2]) (fun | (((c0,c1),c2),c3)=>PY c0.free c1 c2 c3∧2≤c2) (fun | (((c0,c1),_),_)=>.val (.bool (pb (Infs c0 c1)))),ghSpec_ok (fn:=Tryz.f61) (ctx_ok TT_ok [RFI_s,lbnd_s,RSign_s]) mixed_ok (by kernel_rfl) (fun | (((c0,c1),c2),c3),hp=>cinf_x c0 c1 c2 c3 hp.1 hp.2),by kernel_rfl⟩
end Go.Proofs.YtfgkecffpkdjcaaGreat
