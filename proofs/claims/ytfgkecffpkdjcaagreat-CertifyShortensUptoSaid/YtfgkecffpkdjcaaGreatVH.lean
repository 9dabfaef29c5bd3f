/- Package certify by the executor: Solution, Shorten. -/
import Derived.Test.YtfgkecffpkdjcaaGreatVF
namespace Go.Proofs.YtfgkecffpkdjcaaGreat
open Go.RowKit Gm Go.Vx
set_option maxRecDepth 100000
theorem seq (r:Rat):(sgn r.num == 0) = pb (r = 0):=(pb_of (sgq r)).symm
def ilAv (l:List Int):Av:=.list 1 l.length (fun i=>.cons (.val (.int .i64 (l.getD i 0))) .nil)
def solC (s:Int) (v:Rat) (x y r:List Rat) (b c:List Int) (K:Nat):Av:=.cons (.val (.int .i64 s)) (.cons (.rat v K) (.cons (rlAv x K) (.cons (rlAv y K) (.cons (rlAv r K) (.cons (ilAv b) (.cons (ilAv c) .nil))))))
structure PS (p:Prg) (x y r:List Rat) (K M:Nat):Prop where
 fx:PX p x K M
 fr:PX p r K M
 fy:PY p y K M
 ff:PY p.free y K M
 two:2≤K
noncomputable def cand (q:Rat) (d:Int):Rat:=if 0 < q then bel q d else if q < 0 then abv q d else 0
noncomputable def candL (y:List Rat) (d:Int):List Rat:=y.map fun q=>cand q d
theorem cand_zero (d:Int):cand 0 d = 0:=by unfold cand;rw [if_neg (by decide),if_neg (by decide)]
theorem candL_len (y:List Rat) (d:Int):(candL y d).length = y.length:=by unfold candL;simp
theorem candL_rg (y:List Rat) (d:Int) (j:Nat):rg (candL y d) j = cand (rg y j) d:=by
 unfold rg candL
 simp only [List.getD_eq_getElem?_getD,List.getElem?_map]
 cases y[j]? with
 | none=>exact (cand_zero d).symm
 | some q=>rfl
theorem cand_pos {q:Rat} (d:Int) (h:(sgn q.num == 1) = true):bel q d = cand q d:=by unfold cand;rw [sone,pb_t] at h;rw [if_pos h]
theorem cand_neg {q:Rat} (d:Int) (h:(sgn q.num == -1) = true):abv q d = cand q d:=by
 unfold cand;rw [smone,pb_t] at h;rw [if_neg (Rat.not_lt.2 (Rat.le_of_lt h)),if_pos h]
theorem cand_nil {q:Rat} (d:Int) (h:(sgn q.num == 1) = false) (h2:(sgn q.num == -1) = false):(0:Rat) = cand q d:=by
 unfold cand;rw [sone,pb_f] at h;rw [smone,pb_f] at h2;rw [if_neg h,if_neg h2]
def pw (i:Nat):Rat:=(((2 ^ i:Nat):Int):Rat)
theorem pw_num (i:Nat):(pw i).num = ((2 ^ i:Nat):Int):=rfl
theorem pw_pos (i:Nat):1≤(pw i).num:=by rw [pw_num];have:=Nat.pow_pos (n:=i) (show 0 < 2 by decide);omega
theorem pw_succ (i:Nat):pw i + pw i = pw (i + 1):=by unfold pw;rw [← Rat.intCast_add,Nat.pow_succ];congr 1;omega
theorem pw_mono {i j:Nat} (h:i≤j):pw i≤pw j:=by unfold pw;rw [Rat.intCast_le_intCast];exact Int.ofNat_le.2 (Nat.pow_le_pow_right (by decide) h)
def wid (y:List Rat):Nat→Rat
 | 0=>mkRat 1 1
 | n + 1=>maxQ (wid y n) (((rg y n).den:Int):Rat)
theorem wid_sz {y:List Rat} {K:Nat} (h1:1≤K) (h:∀ j,Sz (rg y j) K):∀ n,Sz (wid y n) K
 | 0=>by
   have h1':(limbs 1).length = 1:=limbs1_len
   exact ⟨by show (limbs 1).length≤K;omega,by show (limbs 1).length≤K;omega⟩
 | n + 1=>by
   have e:wid y (n + 1) = wid y n∨wid y (n + 1) = (((rg y n).den:Int):Rat):=by simp only [wid,maxQ];split <;> simp
   rcases e with e | e
   ·rw [e];exact wid_sz h1 h n
   ·rw [e]
    have h1':(limbs 1).length = 1:=limbs1_len
    exact ⟨(h n).2,by show (limbs 1).length≤K;omega⟩
noncomputable def limQ (y:List Rat) (most:Int):Rat:=minQ (most:Rat) (wid y y.length)
def shP (p:Prg) (y:List Rat) (v:Rat) (most:Int) (i:Nat):Prop:=(pw i≤limQ y most∧AtL p (candL y (pw i).num) v)∧∀ j,j < i→¬ AtL p (candL y (pw j).num) v
open Classical in
noncomputable def shL (p:Prg) (y:List Rat) (v:Rat) (most:Int):List Rat:=
 if h:∃ i,shP p y v most i then candL y (pw (Classical.choose h)).num else y
open Classical in
theorem shL_found {p:Prg} {y:List Rat} {v:Rat} {most:Int} {i:Nat} (h1:pw i≤limQ y most) (h2:AtL p (candL y (pw i).num) v) (h3:∀ j,j < i→¬ AtL p (candL y (pw j).num) v):shL p y v most = candL y (pw i).num:=by
 have h:∃ i,shP p y v most i:=⟨i,⟨h1,h2⟩,h3⟩
 unfold shL
 rw [dif_pos h]
 have hs:=Classical.choose_spec h
 have e:Classical.choose h = i:=by
  rcases Nat.lt_trichotomy (Classical.choose h) i with hl | hl | hl
  ·exact absurd hs.1.2 (h3 _ hl)
  ·exact hl
  ·exact absurd h2 (hs.2 _ hl)
 rw [e]
open Classical in
theorem shL_none {p:Prg} {y:List Rat} {v:Rat} {most:Int} {i:Nat} (h1:¬ pw i≤limQ y most) (h3:∀ j,j < i→¬ AtL p (candL y (pw j).num) v):shL p y v most = y:=by
 unfold shL
 rw [dif_neg]
 rintro ⟨j,⟨h4,h5⟩,_⟩
 rcases Nat.lt_or_ge j i with hj | hj
 ·exact h3 j hj h5
 ·exact h1 (Rat.le_trans (pw_mono hj) h4)
theorem pw_sz {i K:Nat} {q:Rat} (hq:Sz q K) (h:i = 0∨pw (i - 1)≤q):Sz (pw i) (K + 1):=by
 have h1':(limbs 1).length = 1:=limbs1_len
 refine ⟨?_,by show (limbs 1).length≤_;omega⟩
 show (limbs (2 ^ i)).length≤K + 1
 rcases h with h | h
 ·subst h;show (limbs 1).length≤_;omega
 ·rcases Nat.eq_zero_or_pos i with h0 | h0
  ·subst h0;show (limbs 1).length≤_;omega
  ·have h2:((2 ^ (i - 1):Nat):Int) * q.den≤q.num * 1:=by
    rw [Rat.le_iff] at h
    exact h
   have h3:(2 ^ (i - 1):Nat)≤q.num.natAbs:=by
    have h4:((2 ^ (i - 1):Nat):Int) * 1≤((2 ^ (i - 1):Nat):Int) * q.den:=Int.mul_le_mul_of_nonneg_left (by have:=q.den_pos;omega) (Int.natCast_nonneg _)
    generalize ((2 ^ (i - 1):Nat):Int) * q.den = z at *
    generalize 2 ^ (i - 1) = w at *
    omega
   have h5:(limbs (2 ^ (i - 1))).length≤K:=Nat.le_trans (limbs_mono h3) hq.1
   have e:2 ^ i = 2 ^ (i - 1) + 2 ^ (i - 1):=by
    have h7:2 ^ (i - 1 + 1) = 2 ^ (i - 1) * 2:=Nat.pow_succ _ _
    rw [show i - 1 + 1 = i by omega] at h7
    omega
   rw [e]
   exact limbs_add_le h5 h5
structure SH (p:Prg) (y:List Rat) (K M:Nat):Prop where
 l:y.length≤1048576
 hK:K≤1048576
 h1:1≤K
 z:∀ j,Sz (rg y j) K
 c:∀ i,PY p (candL y (pw i).num) (K + 2) M
set_option smartUnfolding false in
theorem ccand_x (y:List Rat) (d:Int) (K L:Nat) (hl:y.length≤1048576) (hK:K≤2097152) (hL:L≤2097152) (hd:1≤d):fnOk ⟨TT,specsOf [RSign_s,below_s,above_s,RFI_s]⟩ Tryz.f108 [rlAv y K,.agg (.cons (.intC d L) .nil)] (madeAv (fun j=>cand (rg y j) d) y.length (K + 2)):=by
 (repeat((conv=>whnf);refine ajg ?_))<;>try(conv=>whnf)
 refine ⟨⟨Nat,fun k=>k≤y.length,fun k=>[.slot 13 (.val (.int .i64 (k:Int))),.mod 10 36 3 y.length (partC (fun j=>cand (rg y j) d) (K + 2) k)],fun k=>y.length - k,0⟩,0,Nat.zero_le _,?_⟩
 conv=>whnf
 refine And.intro ?_ ?_
 ·all_goals(repeat' first|exact ayg|apply And.intro|exact azg|fail)
  exact part_zero _ _ _
 conv=>whnf
 rintro k h2
 (repeat((conv=>whnf);refine ajg ?_))<;>try(conv=>whnf)
 refine And.intro (fun h5=>?_) (fun h5=>?_)
 ·have h6r:=of_decide_eq_true h5
  have h6:(k:Int) < y.length:=h6r
  have w1:IntKind.i64.wrap ((k:Int) + 1) = (k:Int) + 1:=w64 (by omega) (by omega)
  (repeat((conv=>whnf);refine ajg ?_))<;>try(conv=>whnf)
  refine And.intro (fun h7=>?_) (fun h7=>?_)
  ·(repeat((conv=>whnf);refine ajg ?_))<;>try(conv=>whnf)
   refine ⟨true,⟨by omega,by omega,by omega,by simp;omega⟩,?_⟩
   (repeat((conv=>whnf);refine ajg ?_))<;>try(conv=>whnf)
   refine ⟨k + 1,(show k + 1≤y.length by omega),(show y.length - (k + 1) < y.length - k by omega),?_⟩
   conv=>whnf
   all_goals(repeat' first|exact ayg|apply And.intro|exact azg|fail)
   exact part_step (j:=k) rfl (cand_pos d h7) (.inl (by omega))
  (repeat((conv=>whnf);refine ajg ?_))<;>try(conv=>whnf)
  refine And.intro (fun h8=>?_) (fun h8=>?_)
  ·(repeat((conv=>whnf);refine ajg ?_))<;>try(conv=>whnf)
   refine ⟨true,⟨by omega,by omega,by omega,by simp;omega⟩,?_⟩
   (repeat((conv=>whnf);refine ajg ?_))<;>try(conv=>whnf)
   refine ⟨k + 1,(show k + 1≤y.length by omega),(show y.length - (k + 1) < y.length - k by omega),?_⟩
   conv=>whnf
   all_goals(repeat' first|exact ayg|apply And.intro|exact azg|fail)
   exact part_step (j:=k) rfl (cand_neg d h8) (.inl (by omega))
  (repeat((conv=>whnf);refine ajg ?_))<;>try(conv=>whnf)
  refine ⟨k + 1,(show k + 1≤y.length by omega),(show y.length - (k + 1) < y.length - k by omega),?_⟩
  conv=>whnf
  all_goals(repeat' first|exact ayg|apply And.intro|exact azg|fail)
  exact part_step (j:=k) rfl (cand_nil d h7 h8) (.inl (by omega))
 have h6:=of_decide_eq_false h5
 obtain rfl:k = y.length:=by omega
 (repeat((conv=>whnf);refine ajg ?_))<;>try(conv=>whnf)
 all_goals(repeat' first|exact ayg|apply And.intro|exact azg|fail)
 exact part_done
noncomputable def ccand_s:PSpec Tryz.prog:=⟨108,ghSpec (((List Rat × Int) × Nat) × Nat) (fun | (((c0,c1),c2),c3)=>[rlAv c0 c2,.agg (.cons (.intC c1 c3) .nil)]) (fun | (((c0,c1),c2),c3)=>c0.length≤1048576∧c2≤2097152∧c3≤2097152∧1≤c1) (fun | (((c0,c1),c2),_)=>madeAv (fun j=>cand (rg c0 j) c1) c0.length (c2 + 2)),ghSpec_ok (fn:=Tryz.f108) (ctx_ok TT_ok [RSign_s,below_s,above_s,RFI_s]) mixed_ok (by kernel_rfl) (fun | (((c0,c1),c2),c3),hp=>ccand_x c0 c1 c2 c3 hp.1 hp.2.1 hp.2.2.1 hp.2.2.2),by kernel_rfl⟩
set_option smartUnfolding false in
theorem cwh_x (m:Int) (K:Nat) (hK:K≤1073741824):fnOk ⟨TT,specsOf [RNorm_s]⟩ Tryz.f106 [nAv m K] (qAv (m:Rat) (K + 1)):=by
 have e:mkRat m 1 = (m:Rat):=Rat.mkRat_one m
 (repeat((conv=>whnf);refine ajg ?_))<;>try(conv=>whnf)
 all_goals(repeat' first|exact ayg|apply And.intro|exact azg|fail)
def cwh_s:PSpec Tryz.prog:=⟨106,spZ (fun _ K=>K≤1073741824) (fun m K=>qAv (m:Rat) (K + 1)),spZ_fn (fn:=Tryz.f106) (ctx_ok TT_ok [RNorm_s]) mixed_ok (by kernel_rfl) (fun m K _ _ hK=>cwh_x m K hK),by kernel_rfl⟩
set_option maxHeartbeats 4000000 in
set_option smartUnfolding false in
theorem csh_x (p:Prg) (y:List Rat) (v:Rat) (m:Int) (K M:Nat) (hy:SH p y K M):fnOk ⟨TT,specsOf [RFI_s,RNorm_s,cwh_s,RMax_s,RMin_s,RCmp_s,ccand_s,catl_s,RAdd_s]⟩ Tryz.f56 [prgAv p K,rlAv y K,rAv v K,nAv m K] (madeAv (rg (shL p y v m)) y.length (K + 2)):=by
 have b0:=hy.l
 have b1:=hy.hK
 have b2:=hy.h1
 (repeat((conv=>whnf);refine ajg ?_))<;>try(conv=>whnf)
 refine ⟨⟨Nat,fun k=>k≤y.length,fun k=>[.slot 22 (.val (.int .i64 (k:Int))),.mod 18 36 3 y.length (partC (rg y) K k),.obj 10 (.cons (.ratC (wid y k) (K + 2)) .nil)],fun k=>y.length - k,0⟩,0,Nat.zero_le _,?_⟩
 conv=>whnf
 refine And.intro ?_ ?_
 ·all_goals(repeat' first|exact ayg|apply And.intro|exact azg|fail)
  exact part_zero _ _ _
 conv=>whnf
 rintro k h2
 (repeat((conv=>whnf);refine ajg ?_))<;>try(conv=>whnf)
 refine And.intro (fun h5=>?_) (fun h5=>?_)
 ·have h6r:=of_decide_eq_true h5
  have h6:(k:Int) < y.length:=h6r
  have w1:IntKind.i64.wrap ((k:Int) + 1) = (k:Int) + 1:=w64 (by omega) (by omega)
  have hz:=hy.z k
  (repeat((conv=>whnf);refine ajg ?_))<;>try(conv=>whnf)
  refine ⟨.cons (.ratC (rg y k) K) .nil,⟨(if_pos rfl).symm,by omega,rfl⟩,?_⟩
  (repeat((conv=>whnf);refine ajg ?_))<;>try(conv=>whnf)
  refine ⟨k + 1,(show k + 1≤y.length by omega),(show y.length - (k + 1) < y.length - k by omega),?_⟩
  have hw:=(wid_sz b2 hy.z (k + 1)).mono (show K≤K + 2 by omega)
  conv=>whnf
  all_goals(repeat' first|exact ayg|apply And.intro|exact azg|fail)
  exact part_step (j:=k) rfl rfl (.inl (Nat.le_refl _))
 have h6:=of_decide_eq_false h5
 obtain rfl:k = y.length:=by omega
 have hwz:=wid_sz b2 hy.z y.length
 (repeat((conv=>whnf);refine ajg ?_))<;>try(conv=>whnf)
 refine ⟨⟨Nat,fun i=>(∀ j,j < i→¬ AtL p (candL y (pw j).num) v)∧(i = 0∨pw (i - 1)≤limQ y m),fun i=>[.obj 14 (.cons (.ratC (pw i) (K + 1)) .nil),.slot 14 (.ptr 14 0)],fun i=>(limQ y m).floor.toNat + 2 - 2 ^ i,0⟩,0,⟨fun j hj=>by omega,.inl rfl⟩,?_⟩
 conv=>whnf
 refine And.intro ?_ ?_
 ·all_goals(repeat' first|exact ayg|apply And.intro|exact azg|fail)
 conv=>whnf
 rintro i ⟨h7,h8⟩
 have hlim:limQ y m≤wid y y.length:=by
  unfold limQ minQ
  split
  ·rename_i h;exact of_decide_eq_true ((cmp_le _ _).symm.trans (decide_eq_true h))
  ·exact Rat.le_refl
 have hps:Sz (pw i) (K + 1):=pw_sz hwz (h8.imp_right fun h=>Rat.le_trans h hlim)
 (repeat((conv=>whnf);refine ajg ?_))<;>try(conv=>whnf)
 refine And.intro (fun h9=>?_) (fun h9=>?_)
 ·have h10:pw i≤limQ y m:=of_decide_eq_true ((cmp_le _ _).symm.trans h9)
  (repeat((conv=>whnf);refine ajg ?_))<;>try(conv=>whnf)
  refine ⟨(((y,(pw i).num),K),K + 1),⟨⟨b0,by omega,by omega,pw_pos i⟩,?_⟩,?_⟩
  ·exact And.intro (rl_fit y (Nat.le_refl K)) (And.intro (And.intro (And.intro rfl (.inl (Nat.le_refl _))) True.intro) True.intro)
  (repeat((conv=>whnf);refine ajg ?_))<;>try(conv=>whnf)
  refine ⟨((((p,candL y (pw i).num),v),K + 2),M),⟨hy.c i,?_⟩,?_⟩
  ·refine And.intro (prg_fit p (show K≤K + 2 by omega)) (And.intro ?_ (And.intro (rat_fit v (show K≤K + 2 by omega)) True.intro))
   exact And.intro rfl (And.intro (candL_len _ _).symm fun j _=>And.intro (And.intro (candL_rg _ _ _).symm (.inl (Nat.le_refl _))) True.intro)
  (repeat((conv=>whnf);refine ajg ?_))<;>try(conv=>whnf)
  refine And.intro (fun h11=>?_) (fun h11=>?_)
  ·have hf:=shL_found h10 (pb_t.1 h11) h7
   (repeat((conv=>whnf);refine ajg ?_))<;>try(conv=>whnf)
   all_goals(repeat' first|exact ayg|apply And.intro|exact azg|fail)
   intro j _
   rw [hf]
   exact And.intro (And.intro (candL_rg _ _ _).symm (.inl (Nat.le_refl _))) True.intro
  ·have h12:=pw_pos i
   (repeat((conv=>whnf);refine ajg ?_))<;>try(conv=>whnf)
   refine ⟨i + 1,⟨fun j hj=>?_,.inr h10⟩,?_,?_⟩
   ·rcases Nat.lt_or_ge j i with hji | hji
    ·exact h7 j hji
    ·rw [show j = i by omega];exact pb_f.1 h11
   ·have h13:(2 ^ i:Nat)≤(limQ y m).floor.toNat:=by
     have:=Rat.le_floor_iff.2 (show (((2 ^ i:Nat):Int):Rat)≤limQ y m from h10)
     omega
    have h14:2 ^ (i + 1) = 2 ^ i * 2:=Nat.pow_succ _ _
    have h15:=Nat.pow_pos (n:=i) (show 0 < 2 by decide)
    show (limQ y m).floor.toNat + 2 - 2 ^ (i + 1) < (limQ y m).floor.toNat + 2 - 2 ^ i
    omega
   have hps2:Sz (pw i + pw i) (K + 1):=by
    rw [pw_succ];exact pw_sz hwz (.inr (Rat.le_trans h10 hlim))
   have he2:=pw_succ i
   conv=>whnf
   all_goals(repeat' first|exact ayg|apply And.intro|exact azg|fail)
 ·have h10:¬ pw i≤limQ y m:=of_decide_eq_false ((cmp_le _ _).symm.trans h9)
  have hf:=shL_none h10 h7
  (repeat((conv=>whnf);refine ajg ?_))<;>try(conv=>whnf)
  all_goals(repeat' first|exact ayg|apply And.intro|exact azg|fail)
  rw [hf]
  intro j hj
  unfold partC
  rw [if_pos hj]
  exact And.intro (And.intro rfl (.inl (by omega))) True.intro
noncomputable def csh_s:PSpec Tryz.prog:=⟨56,ghSpec (((((Prg × List Rat) × Rat) × Int) × Nat) × Nat) (fun | (((((c0,c1),c2),c3),c4),_)=>[prgAv c0 c4,rlAv c1 c4,rAv c2 c4,nAv c3 c4]) (fun | (((((c0,c1),_),_),c4),c5)=>SH c0 c1 c4 c5) (fun | (((((c0,c1),c2),c3),c4),_)=>madeAv (rg (shL c0 c1 c2 c3)) c1.length (c4 + 2)),ghSpec_ok (fn:=Tryz.f56) (ctx_ok TT_ok [RFI_s,RNorm_s,cwh_s,RMax_s,RMin_s,RCmp_s,ccand_s,catl_s,RAdd_s]) mixed_ok (by kernel_rfl) (fun | (((((c0,c1),c2),c3),c4),c5),hp=>csh_x c0 c1 c2 c3 c4 c5 hp),by kernel_rfl⟩
end Go.Proofs.YtfgkecffpkdjcaaGreat
