/- Package certify and its reference by the executor: Optimal, AtLeast, Infeasible, Unbounded. -/
import Derived.Test.YtfgkecffpkdjcaaGreatVO
import Derived.Test.YtfgkecffpkdjcaaGreatVX
namespace Go.Proofs.YtfgkecffpkdjcaaGreat
open Go.RowKit Gm Go.Vx
set_option maxRecDepth 100000
def AtL (p:Prg) (y:List Rat) (v:Rat):Prop:=BndOk p y∧v≤bnd p y
def partF (A:Nat→Av) (Z:Av) (k i:Nat):Av:=if i < k then A i else Z
theorem partF_zero {A:Nat→Av} {Z:Av} {n:Nat} (h:∀ i,i < n→fitC Z Z):∀ i,i < n→fitC (partF A Z 0 i) Z:=fun i hi=>h i hi
theorem partF_step {A:Nat→Av} {Z X:Av} {k n j:Nat} (hj:j = k) (hX:fitC (A k) X) (hA:∀ i,i < n→fitC (A i) (A i)) (hZ:fitC Z Z):∀ i,i < n→fitC (partF A Z (k + 1) i) (if i = j then X else partF A Z k i):=by
 intro i hi
 subst hj
 by_cases h:i = j
 ·subst h
  rw [if_pos rfl];unfold partF;rw [if_pos (by omega)];exact hX
 ·rw [if_neg h]
  unfold partF
  by_cases h2:i < j
  ·rw [if_pos h2,if_pos (by omega)];exact hA i hi
  ·rw [if_neg h2,if_neg (by omega)];exact hZ
theorem partF_done {A B:Nat→Av} {Z:Av} {n:Nat} (h:∀ i,i < n→fitC (B i) (A i)):∀ i,i < n→fitC (B i) (partF A Z n i):=by
 intro i hi
 unfold partF;rw [if_pos hi];exact h i hi
def zeroC:Av:=.cons (.kb false) (.cons (.val (.slice none 0 0)) (.cons (.val (.slice none 0 0)) (.cons (.kb false) (.cons (.kb false) (.cons (.val (.slice none 0 0)) (.cons (.val (.slice none 0 0)) (.cons (.kb false) (.cons (.kb false) (.cons (.val (.slice none 0 0)) (.cons (.val (.slice none 0 0)) .nil))))))))))
theorem zeroC_fit:fitC zeroC zeroC:=And.intro rfl (And.intro rfl (And.intro rfl (And.intro rfl (And.intro rfl (And.intro rfl (And.intro rfl (And.intro rfl (And.intro rfl (And.intro rfl (And.intro rfl True.intro))))))))))
def rayC (c:LCol) (v:Rat):Prop:=(c.hl = true→0≤v)∧(c.hu = true→v≤0)
def rayR (r:LRow) (a:Rat):Prop:=(r.sense≠1→a≤0)∧(r.sense≠-1→0≤a)
theorem unb_no_c {p:Prg} {x ray:List Rat} {j:Nat} (hj:j < p.cols.length) (h:¬ rayC (p.col j) (rg ray j)):pb (Unb p x ray) = false:=pb_f.2 fun hu=>h (hu.c j hj)
theorem unb_no_r {p:Prg} {x ray:List Rat} {i:Nat} (hi:i < p.rows.length) (h:¬ rayR (p.row i) (act (p.row i) ray)):pb (Unb p x ray) = false:=pb_f.2 fun hu=>h (hu.r i hi)
set_option smartUnfolding false in
theorem catl_x (p:Prg) (y:List Rat) (v:Rat) (K M:Nat) (hy:PY p y K M):fnOk ⟨TT,specsOf [lbnd_s,RCmp_s]⟩ Tryz.f51 [prgAv p K,rlAv y K,rAv v K] (.val (.bool (pb (AtL p y v)))):=by
 have b4:=hy.b.hK
 have b5:=hy.hM
 by_cases hb:BndOk p y
 ·(repeat((conv=>whnf);refine ajg ?_))<;>try(conv=>whnf)
  refine ⟨((((p,y),K),M),true),⟨⟨hy,by simpa using hb⟩,And.intro (prg_fit p (Nat.le_refl K)) (And.intro (rl_fit y (Nat.le_refl K)) True.intro)⟩,?_⟩
  (repeat((conv=>whnf);refine ajg ?_))<;>try(conv=>whnf)
  refine congrArg Value.bool ((dge _ _).trans (pb_congr ⟨fun h=>⟨hb,h⟩,fun h=>h.2⟩))
 ·(repeat((conv=>whnf);refine ajg ?_))<;>try(conv=>whnf)
  refine ⟨((((p,y),K),M),false),⟨⟨hy,by simpa using hb⟩,And.intro (prg_fit p (Nat.le_refl K)) (And.intro (rl_fit y (Nat.le_refl K)) True.intro)⟩,?_⟩
  (repeat((conv=>whnf);refine ajg ?_))<;>try(conv=>whnf)
  exact congrArg Value.bool (pb_f.2 fun h=>hb h.1).symm
noncomputable def catl_s:PSpec Tryz.prog:=⟨51,ghSpec ((((Prg × List Rat) × Rat) × Nat) × Nat) (fun | ((((c0,c1),c2),c3),_)=>[prgAv c0 c3,rlAv c1 c3,rAv c2 c3]) (fun | ((((c0,c1),_),c3),c4)=>PY c0 c1 c3 c4) (fun | ((((c0,c1),c2),_),_)=>.val (.bool (pb (AtL c0 c1 c2)))),ghSpec_ok (fn:=Tryz.f51) (ctx_ok TT_ok [lbnd_s,RCmp_s]) mixed_ok (by kernel_rfl) (fun | ((((c0,c1),c2),c3),c4),hp=>catl_x c0 c1 c2 c3 c4 hp),by kernel_rfl⟩
set_option smartUnfolding false in
theorem copt_x (p:Prg) (x y:List Rat) (K M:Nat) (hx:PX p x K M) (hy:PY p y K M):fnOk ⟨TT,specsOf [lfea_s,lbnd_s,lobj_s,RCmp_s]⟩ Tryz.f47 [prgAv p K,rlAv x K,rlAv y K] (.val (.bool (pb (Opt p x y)))):=by
 have b4:=hy.b.hK
 have b5:=hy.hM
 (repeat((conv=>whnf);refine ajg ?_))<;>try(conv=>whnf)
 refine ⟨(((p,x),K),M),⟨hx,And.intro (prg_fit p (Nat.le_refl K)) (And.intro (rl_fit x (Nat.le_refl K)) True.intro)⟩,?_⟩
 (repeat((conv=>whnf);refine ajg ?_))<;>try(conv=>whnf)
 refine And.intro (fun h1=>?_) (fun h1=>?_)
 ·(repeat((conv=>whnf);refine ajg ?_))<;>try(conv=>whnf)
  exact congrArg Value.bool (pb_f.2 fun h=>pbn h1 h.1).symm
 have hf:Feas p x:=pbnf h1
 have he:errC p x.length p.cols.length = 0:=errC_zero.2 ⟨hf.v,hf.n⟩
 by_cases hb:BndOk p y
 ·(repeat((conv=>whnf);refine ajg ?_))<;>try(conv=>whnf)
  refine ⟨((((p,y),K),M),true),⟨⟨hy,by simpa using hb⟩,And.intro (prg_fit p (Nat.le_refl K)) (And.intro (rl_fit y (Nat.le_refl K)) True.intro)⟩,?_⟩
  (repeat((conv=>whnf);refine ajg ?_))<;>try(conv=>whnf)
  refine ⟨((((p,x),K),M),true),⟨⟨hx,by simpa using he⟩,And.intro (prg_fit p (Nat.le_refl K)) (And.intro (rl_fit x (Nat.le_refl K)) True.intro)⟩,?_⟩
  (repeat((conv=>whnf);refine ajg ?_))<;>try(conv=>whnf)
  exact congrArg Value.bool ((deq _ _).trans (pb_congr ⟨fun h=>⟨hf,hb,h⟩,fun h=>h.2.2⟩))
 ·(repeat((conv=>whnf);refine ajg ?_))<;>try(conv=>whnf)
  refine ⟨((((p,y),K),M),false),⟨⟨hy,by simpa using hb⟩,And.intro (prg_fit p (Nat.le_refl K)) (And.intro (rl_fit y (Nat.le_refl K)) True.intro)⟩,?_⟩
  (repeat((conv=>whnf);refine ajg ?_))<;>try(conv=>whnf)
  exact congrArg Value.bool (pb_f.2 fun h=>hb h.2.1).symm
noncomputable def copt_s:PSpec Tryz.prog:=⟨47,ghSpec ((((Prg × List Rat) × List Rat) × Nat) × Nat) (fun | ((((c0,c1),c2),c3),_)=>[prgAv c0 c3,rlAv c1 c3,rlAv c2 c3]) (fun | ((((c0,c1),c2),c3),c4)=>PX c0 c1 c3 c4∧PY c0 c2 c3 c4) (fun | ((((c0,c1),c2),_),_)=>.val (.bool (pb (Opt c0 c1 c2)))),ghSpec_ok (fn:=Tryz.f47) (ctx_ok TT_ok [lfea_s,lbnd_s,lobj_s,RCmp_s]) mixed_ok (by kernel_rfl) (fun | ((((c0,c1),c2),c3),c4),hp=>copt_x c0 c1 c2 c3 c4 hp.1 hp.2),by kernel_rfl⟩
set_option smartUnfolding false in
theorem cinf_x (p:Prg) (y:List Rat) (K M:Nat) (hy:PY p.free y K M) (h2K:2≤K):fnOk ⟨TT,specsOf [RFI_s,lbnd_s,RSign_s]⟩ Tryz.f61 [prgAv p K,rlAv y K] (.val (.bool (pb (Infs p y)))):=by
 have b0:p.cols.length≤1048576:=by rw [← free_len];exact hy.b.c
 have b4:=hy.b.hK
 have b5:=hy.hM
 have hcol:∀ j,fitC (colC (p.free.col j) K) (.cons (.ratC (mkRat 0 1) 2) (.cons (.val (.bool (p.col j).hl)) (.cons (.rat (p.col j).lo K) (.cons (.val (.bool (p.col j).hu)) (.cons (.rat (p.col j).up K) .nil))))):=fun j=>by
  rw [free_col]
  exact And.intro (And.intro rfl (.inl h2K)) (And.intro rfl (And.intro (And.intro rfl (Nat.le_refl K)) (And.intro rfl (And.intro (And.intro rfl (Nat.le_refl K)) True.intro))))
 (repeat((conv=>whnf);refine ajg ?_))<;>try(conv=>whnf)
 refine ⟨⟨Nat,fun k=>k≤p.cols.length,fun k=>[.slot 20 (.val (.int .i64 (k:Int))),.mod 13 61 11 p.cols.length (partF (fun j=>colC (p.free.col j) K) zeroC k)],fun k=>p.cols.length - k,0⟩,0,Nat.zero_le _,?_⟩
 conv=>whnf
 refine And.intro ?_ ?_
 ·all_goals(repeat' first|exact ayg|apply And.intro|exact azg|fail)
  exact partF_zero fun _ _=>zeroC_fit
 conv=>whnf
 rintro k h2
 (repeat((conv=>whnf);refine ajg ?_))<;>try(conv=>whnf)
 refine And.intro (fun h5=>?_) (fun h5=>?_)
 ·have h6r:=of_decide_eq_true h5
  have h6:(k:Int) < p.cols.length:=h6r
  have w1:IntKind.i64.wrap ((k:Int) + 1) = (k:Int) + 1:=w64 (by omega) (by omega)
  (repeat((conv=>whnf);refine ajg ?_))<;>try(conv=>whnf)
  refine ⟨k + 1,(show k + 1≤p.cols.length by omega),(show p.cols.length - (k + 1) < p.cols.length - k by omega),?_⟩
  conv=>whnf
  all_goals(repeat' first|exact ayg|apply And.intro|exact azg|fail)
  exact partF_step (j:=k) rfl (hcol k) (fun _ _=>col_fit _ (Nat.le_refl K)) zeroC_fit
 have h6:=of_decide_eq_false h5
 obtain rfl:k = p.cols.length:=by omega
 have hfit:Go.Vx.fits [prgAv p.free K,rlAv y K] [.agg (.cons (.list 11 p.cols.length (partF (fun j=>colC (p.free.col j) K) zeroC p.cols.length)) (.cons (rowsAv p.rows K) .nil)),rlAv y K]:=by
  refine And.intro (And.intro (And.intro rfl (And.intro (free_len p).symm ?_)) (And.intro (And.intro rfl (And.intro rfl fun _ _=>row_fit _ (Nat.le_refl K))) True.intro)) (And.intro (rl_fit y (Nat.le_refl K)) True.intro)
  rw [free_len]
  exact partF_done fun _ _=>col_fit _ (Nat.le_refl K)
 by_cases hb:BndOk p.free y
 ·(repeat((conv=>whnf);refine ajg ?_))<;>try(conv=>whnf)
  refine ⟨((((p.free,y),K),M),true),⟨⟨hy,by simpa using hb⟩,hfit⟩,?_⟩
  (repeat((conv=>whnf);refine ajg ?_))<;>try(conv=>whnf)
  exact congrArg Value.bool ((sgt _).trans (pb_congr ⟨fun h=>⟨hb,h⟩,fun h=>h.2⟩))
 ·(repeat((conv=>whnf);refine ajg ?_))<;>try(conv=>whnf)
  refine ⟨((((p.free,y),K),M),false),⟨⟨hy,by simpa using hb⟩,hfit⟩,?_⟩
  (repeat((conv=>whnf);refine ajg ?_))<;>try(conv=>whnf)
  exact congrArg Value.bool (pb_f.2 fun h=>hb h.1).symm
noncomputable def cinf_s:PSpec Tryz.prog:=⟨61,ghSpec (((Prg × List Rat) × Nat) × Nat) (fun | (((c0,c1),c2),_)=>[prgAv c0 c2,rlAv c1 c2]) (fun | (((c0,c1),c2),c3)=>PY c0.free c1 c2 c3∧2≤c2) (fun | (((c0,c1),_),_)=>.val (.bool (pb (Infs c0 c1)))),ghSpec_ok (fn:=Tryz.f61) (ctx_ok TT_ok [RFI_s,lbnd_s,RSign_s]) mixed_ok (by kernel_rfl) (fun | (((c0,c1),c2),c3),hp=>cinf_x c0 c1 c2 c3 hp.1 hp.2),by kernel_rfl⟩
set_option maxHeartbeats 4000000 in
set_option smartUnfolding false in
theorem cunb_x (p:Prg) (x ray:List Rat) (K M:Nat) (hx:PX p x K M) (hr:PX p ray K M):fnOk ⟨TT,specsOf [lfea_s,RSign_s,lacts_s,lobj_s]⟩ Tryz.f62 [prgAv p K,rlAv x K,rlAv ray K] (.val (.bool (pb (Unb p x ray)))):=by
 have b0:=hx.b.c
 have b1:=hx.b.r
 have b4:=hx.b.hK
 have b5:=hx.hM
 (repeat((conv=>whnf);refine ajg ?_))<;>try(conv=>whnf)
 refine ⟨(((p,x),K),M),⟨hx,And.intro (prg_fit p (Nat.le_refl K)) (And.intro (rl_fit x (Nat.le_refl K)) True.intro)⟩,?_⟩
 (repeat((conv=>whnf);refine ajg ?_))<;>try(conv=>whnf)
 refine And.intro (fun h1=>?_) (fun h1=>?_)
 ·(repeat((conv=>whnf);refine ajg ?_))<;>try(conv=>whnf)
  exact congrArg Value.bool (pb_f.2 fun h=>pbn h1 h.f).symm
 have hf:Feas p x:=pbnf h1
 (repeat((conv=>whnf);refine ajg ?_))<;>try(conv=>whnf)
 refine And.intro (fun h2=>?_) (fun h2=>?_)
 ·(repeat((conv=>whnf);refine ajg ?_))<;>try(conv=>whnf)
  exact congrArg Value.bool (pb_f.2 fun h=>by have:=h.n;rw [bne_iff_ne] at h2;exact h2 (congrArg _ this)).symm
 have hlen:ray.length = p.cols.length:=by have:=bne_eq_false_iff_eq.1 h2;exact Int.ofNat.inj this
 have he:errC p ray.length p.cols.length = 0:=errC_zero.2 ⟨hf.v,hlen⟩
 (repeat((conv=>whnf);refine ajg ?_))<;>try(conv=>whnf)
 refine ⟨⟨Nat,fun j=>j≤p.cols.length∧∀ i,i < j→rayC (p.col i) (rg ray i),fun j=>[.slot 32 (.val (.int .i64 (j:Int)))],fun j=>p.cols.length - j,0⟩,0,⟨Nat.zero_le _,fun i hi=>by omega⟩,?_⟩
 conv=>whnf
 refine And.intro ?_ ?_
 ·all_goals(repeat' first|exact ayg|apply And.intro|exact azg|fail)
 conv=>whnf
 rintro j ⟨h7,h8⟩
 (repeat((conv=>whnf);refine ajg ?_))<;>try(conv=>whnf)
 refine And.intro (fun h9=>?_) (fun h9=>?_)
 ·have h10r:=of_decide_eq_true h9
  have h10:(j:Int) < p.cols.length:=h10r
  have w1:IntKind.i64.wrap ((j:Int) + 1) = (j:Int) + 1:=w64 (by omega) (by omega)
  have no:=@unb_no_c p x ray j (by omega)
  have yes:rayC (p.col j) (rg ray j)→∀ i,i < j + 1→rayC (p.col i) (rg ray i):=fun hy i hi=>by
   rcases Nat.lt_or_ge i j with hik | hik
   ·exact h8 i hik
   ·rw [show i = j by omega];exact hy
  have f0:(p.cols.getD (j:Int).toNat colZ).hl = (p.col j).hl:=rfl
  have f00:(p.cols.getD (j:Int).toNat colZ).hu = (p.col j).hu:=rfl
  have f1:decide (sgn (rg ray (j:Int).toNat).num > 0) = pb (0 < rg ray j):=sgt _
  have f2:decide (sgn (rg ray (j:Int).toNat).num < 0) = pb (rg ray j < 0):=slt _
  have f3:=@pb_t (0 < rg ray j)
  have f4:=@pb_t (rg ray j < 0)
  repeat' (first|(refine And.intro (fun _=>?_) (fun _=>?_))|((conv=>whnf);refine alg ?_))
  all_goals (try(conv=>whnf))
  all_goals first
   | exact congrArg Value.bool (no (by unfold rayC;grind)).symm
   | (refine ⟨j + 1,⟨by omega,yes (by unfold rayC;grind)⟩,(show p.cols.length - (j + 1) < p.cols.length - j by omega),?_⟩
      conv=>whnf
      all_goals(repeat' first|exact ayg|apply And.intro|exact azg|fail))
 have h10:=of_decide_eq_false h9
 obtain rfl:j = p.cols.length:=by omega
 (repeat((conv=>whnf);refine ajg ?_))<;>try(conv=>whnf)
 refine ⟨((((p,ray),K),M),true),⟨⟨hr,by simpa using he⟩,And.intro (prg_fit p (Nat.le_refl K)) (And.intro (rl_fit ray (Nat.le_refl K)) True.intro)⟩,?_⟩
 (repeat((conv=>whnf);refine ajg ?_))<;>try(conv=>whnf)
 refine ⟨⟨Nat,fun j=>j≤p.rows.length∧∀ i,i < j→rayR (p.row i) (act (p.row i) ray),fun j=>[.slot 66 (.val (.int .i64 (j:Int)))],fun j=>p.rows.length - j,0⟩,0,⟨Nat.zero_le _,fun i hi=>by omega⟩,?_⟩
 conv=>whnf
 refine And.intro ?_ ?_
 ·all_goals(repeat' first|exact ayg|apply And.intro|exact azg|fail)
 conv=>whnf
 rintro j ⟨h11,h12⟩
 (repeat((conv=>whnf);refine ajg ?_))<;>try(conv=>whnf)
 refine And.intro (fun h13=>?_) (fun h13=>?_)
 ·have h14r:=of_decide_eq_true h13
  have h14:(j:Int) < p.rows.length:=h14r
  have w1:IntKind.i64.wrap ((j:Int) + 1) = (j:Int) + 1:=w64 (by omega) (by omega)
  have no:=@unb_no_r p x ray j (by omega)
  have yes:rayR (p.row j) (act (p.row j) ray)→∀ i,i < j + 1→rayR (p.row i) (act (p.row i) ray):=fun hy i hi=>by
   rcases Nat.lt_or_ge i j with hik | hik
   ·exact h12 i hik
   ·rw [show i = j by omega];exact hy
  have f0:(p.rows.getD (j:Int).toNat rowZ).sense = (p.row j).sense:=rfl
  have f1:decide (sgn (act (p.row (j:Int).toNat) ray).num > 0) = pb (0 < act (p.row j) ray):=sgt _
  have f2:decide (sgn (act (p.row (j:Int).toNat) ray).num < 0) = pb (act (p.row j) ray < 0):=slt _
  have f3:=@pb_t (0 < act (p.row j) ray)
  have f4:=@pb_t (act (p.row j) ray < 0)
  repeat' (first|(refine And.intro (fun _=>?_) (fun _=>?_))|((conv=>whnf);refine alg ?_))
  all_goals (try(conv=>whnf))
  all_goals first
   | exact congrArg Value.bool (no (by unfold rayR;grind)).symm
   | (refine ⟨j + 1,⟨by omega,yes (by unfold rayR;grind)⟩,(show p.rows.length - (j + 1) < p.rows.length - j by omega),?_⟩
      conv=>whnf
      all_goals(repeat' first|exact ayg|apply And.intro|exact azg|fail))
 have h14:=of_decide_eq_false h13
 obtain rfl:j = p.rows.length:=by omega
 (repeat((conv=>whnf);refine ajg ?_))<;>try(conv=>whnf)
 refine ⟨((((p,ray),K),M),true),⟨⟨hr,by simpa using he⟩,And.intro (prg_fit p (Nat.le_refl K)) (And.intro (rl_fit ray (Nat.le_refl K)) True.intro)⟩,?_⟩
 (repeat((conv=>whnf);refine ajg ?_))<;>try(conv=>whnf)
 exact congrArg Value.bool ((slt _).trans (pb_congr ⟨fun h=>⟨hf,hlen,h8,h12,h⟩,fun h=>h.o⟩))
noncomputable def cunb_s:PSpec Tryz.prog:=⟨62,ghSpec ((((Prg × List Rat) × List Rat) × Nat) × Nat) (fun | ((((c0,c1),c2),c3),_)=>[prgAv c0 c3,rlAv c1 c3,rlAv c2 c3]) (fun | ((((c0,c1),c2),c3),c4)=>PX c0 c1 c3 c4∧PX c0 c2 c3 c4) (fun | ((((c0,c1),c2),_),_)=>.val (.bool (pb (Unb c0 c1 c2)))),ghSpec_ok (fn:=Tryz.f62) (ctx_ok TT_ok [lfea_s,RSign_s,lacts_s,lobj_s]) mixed_ok (by kernel_rfl) (fun | ((((c0,c1),c2),c3),c4),hp=>cunb_x c0 c1 c2 c3 c4 hp.1 hp.2),by kernel_rfl⟩
set_option maxHeartbeats 4000000 in
set_option smartUnfolding false in
theorem wunb_x (p:Prg) (x ray:List Rat) (K M:Nat) (hx:PX p x K M) (hr:PX p ray K M):fnOk ⟨TT,specsOf [wfea_s,rRSign_s,wobj_s,wact_s,rZero_s,whld_s]⟩ Tryz.f117 [prgAv p K,rlAv x K,rlAv ray K] (.val (.bool (pb (Unb p x ray)))):=by
 have b0:=hx.b.c
 have b1:=hx.b.r
 have b4:=hx.b.hK
 have b5:=hx.hM
 (repeat((conv=>whnf);refine ajg ?_))<;>try(conv=>whnf)
 refine ⟨(((p,x),K),M),⟨hx,And.intro (prg_fit p (Nat.le_refl K)) (And.intro (rl_fit x (Nat.le_refl K)) True.intro)⟩,?_⟩
 (repeat((conv=>whnf);refine ajg ?_))<;>try(conv=>whnf)
 refine And.intro (fun h1=>?_) (fun h1=>?_)
 ·(repeat((conv=>whnf);refine ajg ?_))<;>try(conv=>whnf)
  exact congrArg Value.bool (pb_f.2 fun h=>pbn h1 h.f).symm
 have hf:Feas p x:=pbnf h1
 (repeat((conv=>whnf);refine ajg ?_))<;>try(conv=>whnf)
 refine And.intro (fun h2=>?_) (fun h2=>?_)
 ·(repeat((conv=>whnf);refine ajg ?_))<;>try(conv=>whnf)
  exact congrArg Value.bool (pb_f.2 fun h=>by have:=h.n;rw [bne_iff_ne] at h2;exact h2 (congrArg _ this)).symm
 have hlen:ray.length = p.cols.length:=by have:=bne_eq_false_iff_eq.1 h2;exact Int.ofNat.inj this
 (repeat((conv=>whnf);refine ajg ?_))<;>try(conv=>whnf)
 refine ⟨(((p,ray),K),M),⟨⟨hr,hlen⟩,And.intro (prg_fit p (Nat.le_refl K)) (And.intro (rl_fit ray (Nat.le_refl K)) True.intro)⟩,?_⟩
 (repeat((conv=>whnf);refine ajg ?_))<;>try(conv=>whnf)
 refine And.intro (fun h3=>?_) (fun h3=>?_)
 ·(repeat((conv=>whnf);refine ajg ?_))<;>try(conv=>whnf)
  exact congrArg Value.bool (pb_f.2 fun h=>by have:=of_decide_eq_true h3;have:=sgn_neg.2 h.o;omega).symm
 have ho:obj p ray < 0:=sgn_neg.1 (by have:=of_decide_eq_false h3;omega)
 (repeat((conv=>whnf);refine ajg ?_))<;>try(conv=>whnf)
 refine ⟨⟨Nat,fun j=>j≤p.cols.length∧∀ i,i < j→rayC (p.col i) (rg ray i),fun j=>[.slot 7 (.val (.int .i64 (j:Int)))],fun j=>p.cols.length - j,0⟩,0,⟨Nat.zero_le _,fun i hi=>by omega⟩,?_⟩
 conv=>whnf
 refine And.intro ?_ ?_
 ·all_goals(repeat' first|exact ayg|apply And.intro|exact azg|fail)
 conv=>whnf
 rintro j ⟨h7,h8⟩
 (repeat((conv=>whnf);refine ajg ?_))<;>try(conv=>whnf)
 refine And.intro (fun h9=>?_) (fun h9=>?_)
 ·have h10r:=of_decide_eq_true h9
  have h10:(j:Int) < p.cols.length:=by omega
  have w1:IntKind.i64.wrap ((j:Int) + 1) = (j:Int) + 1:=w64 (by omega) (by omega)
  have no:=@unb_no_c p x ray j (by omega)
  have yes:rayC (p.col j) (rg ray j)→∀ i,i < j + 1→rayC (p.col i) (rg ray i):=fun hy i hi=>by
   rcases Nat.lt_or_ge i j with hik | hik
   ·exact h8 i hik
   ·rw [show i = j by omega];exact hy
  have f0:(p.cols.getD (j:Int).toNat colZ).hl = (p.col j).hl:=rfl
  have f00:(p.cols.getD (j:Int).toNat colZ).hu = (p.col j).hu:=rfl
  have f1:decide (sgn (rg ray (j:Int).toNat).num > 0) = pb (0 < rg ray j):=sgt _
  have f2:decide (sgn (rg ray (j:Int).toNat).num < 0) = pb (rg ray j < 0):=slt _
  have f3:=@pb_t (0 < rg ray j)
  have f4:=@pb_t (rg ray j < 0)
  repeat' (first|(refine And.intro (fun _=>?_) (fun _=>?_))|((conv=>whnf);refine alg ?_))
  all_goals (try(conv=>whnf))
  all_goals first
   | exact congrArg Value.bool (no (by unfold rayC;grind)).symm
   | (refine ⟨j + 1,⟨by omega,yes (by unfold rayC;grind)⟩,(show p.cols.length - (j + 1) < p.cols.length - j by omega),?_⟩
      conv=>whnf
      all_goals(repeat' first|exact ayg|apply And.intro|exact azg|fail))
 have h10:=of_decide_eq_false h9
 obtain rfl:j = p.cols.length:=by omega
 (repeat((conv=>whnf);refine ajg ?_))<;>try(conv=>whnf)
 refine ⟨⟨Nat,fun j=>j≤p.rows.length∧∀ i,i < j→rayR (p.row i) (act (p.row i) ray),fun j=>[.slot 9 (.val (.int .i64 (j:Int)))],fun j=>p.rows.length - j,0⟩,0,⟨Nat.zero_le _,fun i hi=>by omega⟩,?_⟩
 conv=>whnf
 refine And.intro ?_ ?_
 ·all_goals(repeat' first|exact ayg|apply And.intro|exact azg|fail)
 conv=>whnf
 rintro j ⟨h11,h12⟩
 (repeat((conv=>whnf);refine ajg ?_))<;>try(conv=>whnf)
 refine And.intro (fun h13=>?_) (fun h13=>?_)
 ·have h14r:=of_decide_eq_true h13
  have h14:(j:Int) < p.rows.length:=h14r
  have w1:IntKind.i64.wrap ((j:Int) + 1) = (j:Int) + 1:=w64 (by omega) (by omega)
  have no:=@unb_no_r p x ray j (by omega)
  have hb:Hld (act (p.row j) ray) (p.row j).sense 0↔rayR (p.row j) (act (p.row j) ray):=by
   have:=hld_broken (r:=⟨(p.row j).sense,0,[]⟩) (a:=act (p.row j) ray) (hf.v.ro j (by omega)).1
   rw [not_broken] at this
   exact this
  (repeat((conv=>whnf);refine ajg ?_))<;>try(conv=>whnf)
  refine ⟨(((p.row j,ray),K),M),⟨hr.ax hf.v hlen (by omega),And.intro (row_fit (p.row j) (Nat.le_refl K)) (And.intro (rl_fit ray (Nat.le_refl K)) True.intro)⟩,?_⟩
  (repeat((conv=>whnf);refine ajg ?_))<;>try(conv=>whnf)
  refine ⟨((((act (p.row j) ray,(p.row j).sense),0),M),1),⟨by omega,And.intro (And.intro (And.intro rfl (.inl (Nat.le_refl M))) True.intro) (And.intro rfl (And.intro (And.intro (And.intro rfl (.inl (Nat.le_refl 1))) True.intro) True.intro))⟩,?_⟩
  (repeat((conv=>whnf);refine ajg ?_))<;>try(conv=>whnf)
  refine And.intro (fun h15=>?_) (fun h15=>?_)
  ·(repeat((conv=>whnf);refine ajg ?_))<;>try(conv=>whnf)
   exact congrArg Value.bool (no fun h=>pbn h15 (hb.2 h)).symm
  ·have hy:=hb.1 (pbnf h15)
   (repeat((conv=>whnf);refine ajg ?_))<;>try(conv=>whnf)
   refine ⟨j + 1,⟨by omega,fun i hi=>?_⟩,(show p.rows.length - (j + 1) < p.rows.length - j by omega),?_⟩
   ·rcases Nat.lt_or_ge i j with hik | hik
    ·exact h12 i hik
    ·rw [show i = j by omega];exact hy
   conv=>whnf
   all_goals(repeat' first|exact ayg|apply And.intro|exact azg|fail)
 have h14:=of_decide_eq_false h13
 obtain rfl:j = p.rows.length:=by omega
 (repeat((conv=>whnf);refine ajg ?_))<;>try(conv=>whnf)
 exact congrArg Value.bool (pb_t.2 ⟨hf,hlen,h8,h12,ho⟩).symm
noncomputable def wunb_s:PSpec Tryz.prog:=⟨117,ghSpec ((((Prg × List Rat) × List Rat) × Nat) × Nat) (fun | ((((c0,c1),c2),c3),_)=>[prgAv c0 c3,rlAv c1 c3,rlAv c2 c3]) (fun | ((((c0,c1),c2),c3),c4)=>PX c0 c1 c3 c4∧PX c0 c2 c3 c4) (fun | ((((c0,c1),c2),_),_)=>.val (.bool (pb (Unb c0 c1 c2)))),ghSpec_ok (fn:=Tryz.f117) (ctx_ok TT_ok [wfea_s,rRSign_s,wobj_s,wact_s,rZero_s,whld_s]) mixed_ok (by kernel_rfl) (fun | ((((c0,c1),c2),c3),c4),hp=>wunb_x c0 c1 c2 c3 c4 hp.1 hp.2),by kernel_rfl⟩
end Go.Proofs.YtfgkecffpkdjcaaGreat
