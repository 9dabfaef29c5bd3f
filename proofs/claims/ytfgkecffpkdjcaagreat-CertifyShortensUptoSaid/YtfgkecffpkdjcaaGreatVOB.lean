/- Reference 11 by the executor: Reduced, Signed, Bound. -/
import Derived.Test.YtfgkecffpkdjcaaGreatVO
namespace Go.Proofs.YtfgkecffpkdjcaaGreat
open Go.RowKit Gm Go.Vx
set_option maxRecDepth 100000
set_option maxHeartbeats 4000000 in
set_option smartUnfolding false in
theorem wred_x (p:Prg) (y:List Rat) (K M:Nat) (hy:PY p y K M) (hv:Vld p) (hlen:y.length = p.rows.length):fnOk ⟨TT,specsOf [rRNorm_s,rRSign_s,rRMul_s,rRSub_s]⟩ Tryz.f88 [prgAv p K,rlAv y K] (madeAv (red p y) p.cols.length M):=by
 have b0:=hy.b.c
 have b1:=hy.b.r
 have b4:=hy.b.hK
 have b5:=hy.hM
 have b6:=hy.hm
 (repeat((conv=>whnf);refine ajg ?_))<;>try(conv=>whnf)
 refine ⟨⟨Nat,fun k=>k≤p.cols.length,fun k=>[.slot 6 (.val (.int .i64 (k:Int))),.own 5 36 3 k (madeC (redR p y 0) M),.slot 5 (.row 5)],fun k=>p.cols.length - k,0⟩,0,Nat.zero_le _,?_⟩
 conv=>whnf
 refine And.intro ?_ ?_
 ·all_goals(repeat' first|exact ayg|apply And.intro|exact azg|fail)
 conv=>whnf
 rintro k h2
 (repeat((conv=>whnf);refine ajg ?_))<;>try(conv=>whnf)
 refine And.intro (fun h5=>?_) (fun h5=>?_)
 ·have h6:(k:Int) < p.cols.length:=of_decide_eq_true h5
  have w1:IntKind.i64.wrap ((k:Int) + 1) = (k:Int) + 1:=w64 (by omega) (by omega)
  (repeat((conv=>whnf);refine ajg ?_))<;>try(conv=>whnf)
  refine ⟨k + 1,(show k + 1≤p.cols.length by omega),(show p.cols.length - (k + 1) < p.cols.length - k by omega),?_⟩
  conv=>whnf
  all_goals(repeat' first|exact ayg|apply And.intro|exact azg|fail)
  exact made_app (f:=redR p y 0) rfl (.inr (hy.r 0 k (Nat.zero_le _)))
 have h6:¬ (k:Int) < p.cols.length:=of_decide_eq_false h5
 obtain rfl:k = p.cols.length:=by omega
 (repeat((conv=>whnf);refine ajg ?_))<;>try(conv=>whnf)
 refine ⟨⟨Nat,fun i=>i≤p.rows.length,fun i=>[.slot 7 (.val (.int .i64 (i:Int))),.mod 5 36 3 p.cols.length (madeC (redR p y i) M)],fun i=>p.rows.length - i,0⟩,0,Nat.zero_le _,?_⟩
 conv=>whnf
 refine And.intro ?_ ?_
 ·all_goals(repeat' first|exact ayg|apply And.intro|exact azg|fail)
  exact made_refl _ _ _
 conv=>whnf
 rintro i h7
 (repeat((conv=>whnf);refine ajg ?_))<;>try(conv=>whnf)
 refine And.intro (fun h8=>?_) (fun h8=>?_)
 ·have h9:(i:Int) < p.rows.length:=of_decide_eq_true h8
  have w1:IntKind.i64.wrap ((i:Int) + 1) = (i:Int) + 1:=w64 (by omega) (by omega)
  have b3:=hy.b.e i
  (repeat((conv=>whnf);refine ajg ?_))<;>try(conv=>whnf)
  refine And.intro (fun h10=>?_) (fun h10=>?_)
  ·have e:redR p y i = redR p y (i + 1):=redR_skip h10
   (repeat((conv=>whnf);refine ajg ?_))<;>try(conv=>whnf)
   refine ⟨i + 1,(show i + 1≤p.rows.length by omega),(show p.rows.length - (i + 1) < p.rows.length - i by omega),?_⟩
   conv=>whnf
   all_goals(repeat' first|exact ayg|apply And.intro|exact azg|fail)
   exact made_eq e.symm _ _
  have e:redE (p.row i) (rg y i) (redR p y i) (p.row i).es.length = redR p y (i + 1):=redR_do h10
  (repeat((conv=>whnf);refine ajg ?_))<;>try(conv=>whnf)
  refine ⟨⟨Nat,fun k=>k≤(p.row i).es.length,fun k=>[.slot 47 (.val (.int .i64 (k:Int))),.mod 5 36 3 p.cols.length (madeC (redE (p.row i) (rg y i) (redR p y i) k) M)],fun k=>(p.row i).es.length - k,0⟩,0,Nat.zero_le _,?_⟩
  conv=>whnf
  refine And.intro ?_ ?_
  ·all_goals(repeat' first|exact ayg|apply And.intro|exact azg|fail)
   exact made_refl _ _ _
  conv=>whnf
  rintro k h11
  (repeat((conv=>whnf);refine ajg ?_))<;>try(conv=>whnf)
  refine And.intro (fun h12=>?_) (fun h12=>?_)
  ·have h13r:=of_decide_eq_true h12
   have h13:(k:Int) < (p.row i).es.length:=h13r
   have w2:IntKind.i64.wrap ((k:Int) + 1) = (k:Int) + 1:=w64 (by omega) (by omega)
   have hix:=(hv.ro i (by omega)).2.2 k (by omega)
   have hix2:0≤((p.row i).es.getD k (0,0)).1∧((p.row i).es.getD k (0,0)).1 < (p.cols.length:Int):=⟨hix.1,hix.2.1⟩
   have hr:0≤((p.rows.getD (i:Int).toNat rowZ).es.getD (k:Int).toNat (0,0)).1∧((p.rows.getD (i:Int).toNat rowZ).es.getD (k:Int).toNat (0,0)).1 < (p.cols.length:Int):=hix2
   (repeat((conv=>whnf);refine ajg ?_))<;>try(conv=>whnf)
   refine ⟨k + 1,(show k + 1≤(p.row i).es.length by omega),(show (p.row i).es.length - (k + 1) < (p.row i).es.length - k by omega),?_⟩
   conv=>whnf
   all_goals(repeat' first|exact ayg|apply And.intro|exact azg|fail)
   exact made_upd (r:=p.row i) (y:=rg y i) (d:=redR p y i) (k:=k) rfl rfl (hy.e i (k + 1) _ (by omega) (by omega))
  ·have h13:¬ (k:Int) < (p.row i).es.length:=of_decide_eq_false h12
   obtain rfl:k = (p.row i).es.length:=by omega
   (repeat((conv=>whnf);refine ajg ?_))<;>try(conv=>whnf)
   refine ⟨i + 1,(show i + 1≤p.rows.length by omega),(show p.rows.length - (i + 1) < p.rows.length - i by omega),?_⟩
   conv=>whnf
   all_goals(repeat' first|exact ayg|apply And.intro|exact azg|fail)
   exact made_eq e.symm _ _
 ·have h9:¬ (i:Int) < p.rows.length:=of_decide_eq_false h8
  obtain rfl:i = p.rows.length:=by omega
  (repeat((conv=>whnf);refine ajg ?_))<;>try(conv=>whnf)
  all_goals(repeat' first|exact ayg|apply And.intro|exact azg|fail)
  exact made_refl _ _ _
noncomputable def wred_s:PSpec Tryz.prog:=⟨88,ghSpec (((Prg × List Rat) × Nat) × Nat) (fun | (((c0,c1),c2),_)=>[prgAv c0 c2,rlAv c1 c2]) (fun | (((c0,c1),c2),c3)=>PY c0 c1 c2 c3∧Vld c0∧c1.length = c0.rows.length) (fun | (((c0,c1),_),c3)=>madeAv (red c0 c1) c0.cols.length c3),ghSpec_ok (fn:=Tryz.f88) (ctx_ok TT_ok [rRNorm_s,rRSign_s,rRMul_s,rRSub_s]) mixed_ok (by kernel_rfl) (fun | (((c0,c1),c2),c3),hp=>wred_x c0 c1 c2 c3 hp.1 hp.2.1 hp.2.2),by kernel_rfl⟩
set_option smartUnfolding false in
theorem wsgd_x (p:Prg) (y:List Rat) (K:Nat) (hb:PB p K):fnOk ⟨TT,specsOf [wvalid_s,rRSign_s]⟩ Tryz.f87 [prgAv p K,rlAv y K] (.val (.bool (pb (Sgd p y)))):=by
 have b1:=hb.r
 have b4:=hb.hK
 (repeat((conv=>whnf);refine ajg ?_))<;>try(conv=>whnf)
 refine ⟨(p,K),⟨hb,And.intro (prg_fit p (Nat.le_refl K)) True.intro⟩,?_⟩
 (repeat((conv=>whnf);refine ajg ?_))<;>try(conv=>whnf)
 refine And.intro (fun h1=>?_) (fun h1=>?_)
 ·have he:errV p≠0:=by simpa using h1
  (repeat((conv=>whnf);refine ajg ?_))<;>try(conv=>whnf)
  exact congrArg Value.bool (pb_f.2 fun h=>he (errV_zero.2 h.v)).symm
 have hv:Vld p:=errV_zero.1 (by simpa using h1)
 (repeat((conv=>whnf);refine ajg ?_))<;>try(conv=>whnf)
 refine And.intro (fun h2=>?_) (fun h2=>?_)
 ·(repeat((conv=>whnf);refine ajg ?_))<;>try(conv=>whnf)
  exact congrArg Value.bool (pb_f.2 fun h=>by have:=h.n;rw [bne_iff_ne] at h2;exact h2 (congrArg _ this)).symm
 have hlen:y.length = p.rows.length:=by have:=bne_eq_false_iff_eq.1 h2;exact Int.ofNat.inj this
 (repeat((conv=>whnf);refine ajg ?_))<;>try(conv=>whnf)
 refine ⟨⟨Nat,fun k=>k≤p.rows.length∧∀ i,i < k→((p.row i).sense = -1→rg y i≤0)∧((p.row i).sense = 1→0≤rg y i),fun k=>[.slot 5 (.val (.int .i64 (k:Int)))],fun k=>p.rows.length - k,0⟩,0,⟨Nat.zero_le _,fun i hi=>by omega⟩,?_⟩
 conv=>whnf
 refine And.intro ?_ ?_
 ·all_goals(repeat' first|exact ayg|apply And.intro|exact azg|fail)
 conv=>whnf
 rintro k ⟨h2,h3⟩
 (repeat((conv=>whnf);refine ajg ?_))<;>try(conv=>whnf)
 refine And.intro (fun h5=>?_) (fun h5=>?_)
 ·have h6r:=of_decide_eq_true h5
  have h6:(k:Int) < p.rows.length:=by omega
  have w1:IntKind.i64.wrap ((k:Int) + 1) = (k:Int) + 1:=w64 (by omega) (by omega)
  have no:¬ (((p.row k).sense = -1→rg y k≤0)∧((p.row k).sense = 1→0≤rg y k))→pb (Sgd p y) = false:=fun hn=>pb_f.2 fun h=>hn (h.s k (by omega))
  have yes:(((p.row k).sense = -1→rg y k≤0)∧((p.row k).sense = 1→0≤rg y k))→∀ i,i < k + 1→((p.row i).sense = -1→rg y i≤0)∧((p.row i).sense = 1→0≤rg y i):=fun hy i hi=>by
   rcases Nat.lt_or_ge i k with hik | hik
   ·exact h3 i hik
   ·rw [show i = k by omega];exact hy
  have f0:(p.rows.getD (k:Int).toNat rowZ).sense = (p.row k).sense:=rfl
  have f1:decide (sgn (rg y (k:Int).toNat).num > 0) = pb (0 < rg y k):=sgt _
  have f2:decide (sgn (rg y (k:Int).toNat).num < 0) = pb (rg y k < 0):=slt _
  have f3:=@pb_t (0 < rg y k)
  have f4:=@pb_t (rg y k < 0)
  repeat' (first|(refine And.intro (fun _=>?_) (fun _=>?_))|((conv=>whnf);refine alg ?_))
  all_goals (try(conv=>whnf))
  all_goals first
   | exact congrArg Value.bool (no (by grind)).symm
   | (refine ⟨k + 1,⟨by omega,yes (by grind)⟩,(show p.rows.length - (k + 1) < p.rows.length - k by omega),?_⟩
      conv=>whnf
      all_goals(repeat' first|exact ayg|apply And.intro|exact azg|fail))
 ·have h6:=of_decide_eq_false h5
  obtain rfl:k = p.rows.length:=by omega
  (repeat((conv=>whnf);refine ajg ?_))<;>try(conv=>whnf)
  exact congrArg Value.bool (pb_t.2 ⟨hv,hlen,h3⟩).symm
noncomputable def wsgd_s:PSpec Tryz.prog:=⟨87,ghSpec ((Prg × List Rat) × Nat) (fun | ((c0,c1),c2)=>[prgAv c0 c2,rlAv c1 c2]) (fun | ((c0,_),c2)=>PB c0 c2) (fun | ((c0,c1),_)=>.val (.bool (pb (Sgd c0 c1)))),ghSpec_ok (fn:=Tryz.f87) (ctx_ok TT_ok [wvalid_s,rRSign_s]) mixed_ok (by kernel_rfl) (fun | ((c0,c1),c2),hp=>wsgd_x c0 c1 c2 hp),by kernel_rfl⟩
set_option maxHeartbeats 4000000 in
set_option smartUnfolding false in
theorem wbnd_x (p:Prg) (y:List Rat) (K M:Nat) (g:Bool) (hy:PY p y K M) (hg:g = true↔BndOk p y):fnOk ⟨TT,specsOf [wsgd_s,wred_s,rZero_s,rRMul_s,rRAdd_s,rRSign_s]⟩ Tryz.f54 [prgAv p K,rlAv y K] (optAv (bnd p y) M g):=by
 have b0:=hy.b.c
 have b1:=hy.b.r
 have b4:=hy.b.hK
 have b5:=hy.hM
 have b6:=hy.hm
 have hgf:¬ BndOk p y→g = false:=fun h=>by cases g with
  | false=>rfl
  | true=>exact absurd (hg.1 rfl) h
 (repeat((conv=>whnf);refine ajg ?_))<;>try(conv=>whnf)
 refine ⟨((p,y),K),⟨hy.b,And.intro (prg_fit p (Nat.le_refl K)) (And.intro (rl_fit y (Nat.le_refl K)) True.intro)⟩,?_⟩
 (repeat((conv=>whnf);refine ajg ?_))<;>try(conv=>whnf)
 refine And.intro (fun h1=>?_) (fun h1=>?_)
 ·obtain rfl:=hgf fun h=>pbn h1 h.s
  (repeat((conv=>whnf);refine ajg ?_))<;>try(conv=>whnf)
  all_goals(repeat' first|exact ayg|apply And.intro|exact azg|fail)
 have hs:Sgd p y:=pbnf h1
 have hlen:=hs.n
 (repeat((conv=>whnf);refine ajg ?_))<;>try(conv=>whnf)
 refine ⟨⟨Nat,fun k=>k≤p.rows.length,fun k=>[.slot 7 (.val (.int .i64 (k:Int))),.obj 6 (.cons (.ratC (yrhs p y k) M) .nil)],fun k=>p.rows.length - k,0⟩,0,Nat.zero_le _,?_⟩
 conv=>whnf
 refine And.intro ?_ ?_
 ·all_goals(repeat' first|exact ayg|apply And.intro|exact azg|fail)
 conv=>whnf
 rintro k h2
 (repeat((conv=>whnf);refine ajg ?_))<;>try(conv=>whnf)
 refine And.intro (fun h5=>?_) (fun h5=>?_)
 ·have h6r:=of_decide_eq_true h5
  have h6:(k:Int) < p.rows.length:=by omega
  have w1:IntKind.i64.wrap ((k:Int) + 1) = (k:Int) + 1:=w64 (by omega) (by omega)
  have hsz:=hy.h (k + 1) (by omega)
  (repeat((conv=>whnf);refine ajg ?_))<;>try(conv=>whnf)
  refine ⟨k + 1,(show k + 1≤p.rows.length by omega),(show p.rows.length - (k + 1) < p.rows.length - k by omega),?_⟩
  conv=>whnf
  all_goals(repeat' first|exact ayg|apply And.intro|exact azg|fail)
 have h6:=of_decide_eq_false h5
 obtain rfl:k = p.rows.length:=by omega
 (repeat((conv=>whnf);refine ajg ?_))<;>try(conv=>whnf)
 refine ⟨(((p,y),K),M),⟨⟨hy,hs.v,hlen⟩,And.intro (prg_fit p (Nat.le_refl K)) (And.intro (rl_fit y (Nat.le_refl K)) True.intro)⟩,?_⟩
 (repeat((conv=>whnf);refine ajg ?_))<;>try(conv=>whnf)
 refine ⟨⟨Nat,fun j=>j≤p.cols.length∧∀ i,i < j→bOk p y i,fun j=>[.slot 9 (.val (.int .i64 (j:Int))),.obj 6 (.cons (.ratC (bsum p y j) M) .nil)],fun j=>p.cols.length - j,0⟩,0,⟨Nat.zero_le _,fun i hi=>by omega⟩,?_⟩
 have ez:yrhs p y p.rows.length = bsum p y 0:=(Rat.add_zero _).symm
 conv=>whnf
 refine And.intro ?_ ?_
 ·all_goals(repeat' first|exact ayg|apply And.intro|exact azg|fail)
 conv=>whnf
 rintro j ⟨h7,h8⟩
 (repeat((conv=>whnf);refine ajg ?_))<;>try(conv=>whnf)
 refine And.intro (fun h9=>?_) (fun h9=>?_)
 ·have h10r:=of_decide_eq_true h9
  have h10:(j:Int) < p.cols.length:=h10r
  have w1:IntKind.i64.wrap ((j:Int) + 1) = (j:Int) + 1:=w64 (by omega) (by omega)
  have hsz:=hy.s (j + 1) (by omega)
  have no:¬ bOk p y j→g = false:=fun hn=>hgf fun h=>hn (h.b j (by omega))
  have yes:bOk p y j→∀ i,i < j + 1→bOk p y i:=fun hy i hi=>by
   rcases Nat.lt_or_ge i j with hik | hik
   ·exact h8 i hik
   ·rw [show i = j by omega];exact hy
  have f0:(p.cols.getD (j:Int).toNat colZ).hl = (p.col j).hl:=rfl
  have f00:(p.cols.getD (j:Int).toNat colZ).hu = (p.col j).hu:=rfl
  have f1:(sgn (red p y (j:Int).toNat).num == 1) = pb (0 < red p y j):=sone _
  have f2:(sgn (red p y (j:Int).toNat).num == -1) = pb (red p y j < 0):=smone _
  have f3:=@pb_t (0 < red p y j)
  have f4:=@pb_t (red p y j < 0)
  have z1:0 < red p y j→Sz (bsum p y j + red p y j * (p.col j).lo) M:=fun h=>(bs_pos h).symm ▸ hsz
  have z2:red p y j < 0→Sz (bsum p y j + red p y j * (p.col j).up) M:=fun h=>(bs_neg h).symm ▸ hsz
  repeat' (first|(refine And.intro (fun _=>?_) (fun _=>?_))|((conv=>whnf);refine alg ?_))
  all_goals (try(conv=>whnf))
  all_goals first
   | (obtain rfl:=no (by unfold bOk;grind)
      all_goals(repeat' first|exact ayg|apply And.intro|exact azg|fail)
      done)
   | (refine ⟨j + 1,⟨by omega,yes (by unfold bOk;grind)⟩,(show p.cols.length - (j + 1) < p.cols.length - j by omega),?_⟩
      conv=>whnf
      all_goals(repeat' first|exact ayg|apply And.intro|exact azg|fail)
      all_goals first | exact bs_pos (by grind) | exact bs_neg (by grind) | exact bs_nil (by grind) | exact .inr (z1 (by grind)) | exact .inr (z2 (by grind)))
 ·have h10:¬ (j:Int) < p.cols.length:=of_decide_eq_false h9
  obtain rfl:j = p.cols.length:=by omega
  obtain rfl:g = true:=hg.2 ⟨hs,h8⟩
  (repeat((conv=>whnf);refine ajg ?_))<;>try(conv=>whnf)
  all_goals(repeat' first|exact ayg|apply And.intro|exact azg|fail)
noncomputable def wbnd_s:PSpec Tryz.prog:=⟨54,ghSpec ((((Prg × List Rat) × Nat) × Nat) × Bool) (fun | ((((c0,c1),c2),_),_)=>[prgAv c0 c2,rlAv c1 c2]) (fun | ((((c0,c1),c2),c3),c4)=>PY c0 c1 c2 c3∧(c4 = true↔BndOk c0 c1)) (fun | ((((c0,c1),_),c3),c4)=>optAv (bnd c0 c1) c3 c4),ghSpec_ok (fn:=Tryz.f54) (ctx_ok TT_ok [wsgd_s,wred_s,rZero_s,rRMul_s,rRAdd_s,rRSign_s]) mixed_ok (by kernel_rfl) (fun | ((((c0,c1),c2),c3),c4),hp=>wbnd_x c0 c1 c2 c3 c4 hp.1 hp.2),by kernel_rfl⟩
end Go.Proofs.YtfgkecffpkdjcaaGreat
