/- Reference 05: Simplest; ApproxSimplest by the executor. -/
import Derived.Test.YtfgkecffpkdjcaaGreatVTP
import Derived.Test.YtfgkecffpkdjcaaGreatVX
import Derived.Test.YtfgkecffpkdjcaaGreatVU
import Derived.Test.YtfgkecffpkdjcaaGreatOC
namespace Go.Proofs.YtfgkecffpkdjcaaGreat
open Go.RowKit Gm Go.Vx
set_option maxRecDepth 100000
theorem cmpZ_gt' {m n:Int}:0 < cmpI m n↔n < m:=by unfold cmpI;split <;> (try split) <;> omega
theorem szi_mono {d:Nat} {q:Rat} {K:Nat} (hz:Sz q K) (h:d≤q.den):SzI (d:Int) K:=by
 unfold SzI;rw [Int.natAbs_natCast];exact Nat.le_trans (limbs_mono h) hz.2
theorem sim_sz {lo hi:Rat} {K:Nat} (hz:Sz lo K) (h:lo≤hi):Sz (sim lo hi) K:=by
 have hb:=(sim_best h).2.2 lo Rat.le_refl h
 exact ⟨Nat.le_trans (limbs_mono hb.1) hz.1,Nat.le_trans (limbs_mono hb.2) hz.2⟩
theorem sgn_lt0 {z:Int}:sgn z < 0↔z < 0:=by unfold sgn;split <;> (try split) <;> omega
theorem sgn_ge0 {z:Int}:sgn z≥0↔0≤z:=by unfold sgn;split <;> (try split) <;> omega
set_option maxHeartbeats 2000000 in
set_option smartUnfolding false in
theorem rsim_x (lo hi:Rat) (K:Nat) (g:Bool) (hz:Sz lo K) (h1:1≤K) (hK:K≤1048576) (hg:g = true↔lo≤hi):fnOk ⟨TT,specsOf [rRCmp_s,rIFromInt_s,rWh_s,rRMul_s,rRCeil_s,rRFloor_s,rICmp_s,rISign_s,rMake_s,rIAdd_s]⟩ Tryz.f67 [qAv lo K,qAv hi K] (optAv (sim lo hi) K g):=by
 cases g with
 | false=>
   have h0:¬ lo≤hi:=fun h=>by have:=hg.2 h;cases this
   (repeat((conv=>whnf);refine aig ?_))<;>try(conv=>whnf)
   refine And.intro (fun h1=>?_) (fun h1=>absurd (cmpR_gt.2 (Rat.not_le.1 h0)) (of_decide_eq_false h1))
   (repeat((conv=>whnf);refine aig ?_))<;>try(conv=>whnf)
   all_goals(repeat' first|exact ayg|apply And.intro|exact azg|fail)
 | true=>
   have hle:lo≤hi:=hg.1 rfl
   have hb:=sim_best hle
   have hdl:=(hb.2.2 lo Rat.le_refl hle).2
   have hsz:=sim_sz hz hle
   have hdp:=(sim lo hi).den_pos
   (repeat((conv=>whnf);refine aig ?_))<;>try(conv=>whnf)
   refine And.intro (fun h1=>absurd (cmpR_gt.1 (of_decide_eq_true h1)) (Rat.not_lt.2 hle)) (fun _=>?_)
   (repeat((conv=>whnf);refine aig ?_))<;>try(conv=>whnf)
   refine ⟨⟨Nat,fun d=>1≤d∧d≤(sim lo hi).den,fun d=>[.obj 6 (.cons (.intC (d:Int) (K + 1)) .nil),.slot 6 (.ptr 6 0)],fun d=>(sim lo hi).den - d,0⟩,1,⟨Nat.le_refl 1,hdp⟩,?_⟩
   conv=>whnf
   refine And.intro ?_ ?_
   ·all_goals(repeat' first|exact ayg|apply And.intro|exact azg|fail)
   conv=>whnf
   rintro d ⟨h2,h3⟩
   (repeat((conv=>whnf);refine aig ?_))<;>try(conv=>whnf)
   refine And.intro (fun h4=>?_) (fun h4=>?_)
   ·have h5:=cmpZ_gt'.1 (of_decide_eq_true h4)
    have h6:d≠(sim lo hi).den:=fun e=>by
     have h7:=ss2 hb
     rw [← e] at h7
     omega
    have h7:SzI ((d:Int) + 1) (K + 1):=(szi_mono (d:=d + 1) hz (by omega)).mono (by omega)
    have h7':=h7
    (repeat((conv=>whnf);refine aig ?_))<;>try(conv=>whnf)
    refine ⟨d + 1,⟨by omega,by omega⟩,(show (sim lo hi).den - (d + 1) < (sim lo hi).den - d by omega),?_⟩
    conv=>whnf
    all_goals(repeat' first|exact ayg|apply And.intro|exact azg|fail)
    all_goals exact .inr h7'
   have h5:(lo * ((d:Int):Rat)).ceil≤(hi * ((d:Int):Rat)).floor:=by
    have:=of_decide_eq_false h4
    rw [gt_iff_lt,cmpZ_gt'] at this
    omega
   have h6:=ss1 hb (d:=(d:Int)) (by omega) h5
   obtain rfl:d = (sim lo hi).den:=by omega
   have h7:=fun z (hz:pick0 (lo * (((sim lo hi).den:Int):Rat)).ceil (hi * (((sim lo hi).den:Int):Rat)).floor = z)=>(Rat.divInt_ofNat z (sim lo hi).den).symm.trans (hz ▸ ss3 hb)
   have dn:(0:Int)≤((sim lo hi).den:Int):=Int.natCast_nonneg _
   (repeat((conv=>whnf);refine aig ?_))<;>try(conv=>whnf)
   refine And.intro (fun c1=>?_) (fun c1=>?_)
   ·have d1:=sgn_lt0.1 (of_decide_eq_true c1)
    (repeat((conv=>whnf);refine aig ?_))<;>try(conv=>whnf)
    refine And.intro (fun c2=>?_) (fun c2=>?_)
    ·have d2:=sgn_ge0.1 (of_decide_eq_true c2)
     have h8:=h7 0 (by unfold pick0;rw [if_pos ⟨d1,d2⟩])
     (repeat((conv=>whnf);refine aig ?_))<;>try(conv=>whnf)
     refine ⟨(sim lo hi,K),⟨by omega,dn,h8,hsz⟩,?_⟩
     (repeat((conv=>whnf);refine aig ?_))<;>try(conv=>whnf)
     all_goals(repeat' first|exact ayg|apply And.intro|exact azg|fail)
    ·have d2:=fun h=>of_decide_eq_false c2 (sgn_ge0.2 h)
     have d3:(hi * (((sim lo hi).den:Int):Rat)).floor < 0:=Int.not_le.1 d2
     have h8:=h7 _ (by unfold pick0;rw [if_neg (fun h=>d2 h.2),if_pos d3])
     (repeat((conv=>whnf);refine aig ?_))<;>try(conv=>whnf)
     refine And.intro (fun _=>?_) (fun h=>absurd (sgn_lt0.2 d3) (of_decide_eq_false h))
     (repeat((conv=>whnf);refine aig ?_))<;>try(conv=>whnf)
     refine ⟨(sim lo hi,K),⟨by omega,dn,h8,hsz⟩,?_⟩
     (repeat((conv=>whnf);refine aig ?_))<;>try(conv=>whnf)
     all_goals(repeat' first|exact ayg|apply And.intro|exact azg|fail)
   ·have d1:=fun h=>of_decide_eq_false c1 (sgn_lt0.2 h)
    (repeat((conv=>whnf);refine aig ?_))<;>try(conv=>whnf)
    refine And.intro (fun c2=>?_) (fun c2=>?_)
    ·have d3:=sgn_lt0.1 (of_decide_eq_true c2)
     have h8:=h7 _ (by unfold pick0;rw [if_neg (fun h=>d1 h.1),if_pos d3])
     (repeat((conv=>whnf);refine aig ?_))<;>try(conv=>whnf)
     refine ⟨(sim lo hi,K),⟨by omega,dn,h8,hsz⟩,?_⟩
     (repeat((conv=>whnf);refine aig ?_))<;>try(conv=>whnf)
     all_goals(repeat' first|exact ayg|apply And.intro|exact azg|fail)
    ·have d3:=fun h=>of_decide_eq_false c2 (sgn_lt0.2 h)
     have h8:=h7 _ (by unfold pick0;rw [if_neg (fun h=>d1 h.1),if_neg d3])
     (repeat((conv=>whnf);refine aig ?_))<;>try(conv=>whnf)
     refine ⟨(sim lo hi,K),⟨by omega,dn,h8,hsz⟩,?_⟩
     (repeat((conv=>whnf);refine aig ?_))<;>try(conv=>whnf)
     all_goals(repeat' first|exact ayg|apply And.intro|exact azg|fail)
noncomputable def rsim_s:PSpec Tryz.prog:=⟨67,ghSpec (((Rat × Rat) × Nat) × Bool) (fun | (((lo,hi),K),_)=>[qAv lo K,qAv hi K]) (fun | (((lo,hi),K),g)=>Sz lo K∧1≤K∧K≤1048576∧(g = true↔lo≤hi)) (fun | (((lo,hi),K),g)=>optAv (sim lo hi) K g),ghSpec_ok (fn:=Tryz.f67) (ctx_ok TT_ok [rRCmp_s,rIFromInt_s,rWh_s,rRMul_s,rRCeil_s,rRFloor_s,rICmp_s,rISign_s,rMake_s,rIAdd_s]) mixed_ok (by kernel_rfl) (fun | (((lo,hi),K),g),hp=>rsim_x lo hi K g hp.1 hp.2.1 hp.2.2.1 hp.2.2.2),by kernel_rfl⟩
set_option smartUnfolding false in
theorem smp5_x (F:Nat→Int) (n:Nat) (hn:n≤1048576):fnOk ⟨TT,specsOf [tnew_s,next_s,rROf_s,simp_s,rsim_s,awake5_s,rREq_s]⟩ Tryz.f16 [tA F n] (.val (.bool true)):=by
 have b1u:=tNv_bd F n 0 (m:=400) (by decide)
 have b2u:=tNv_bd F n (tNi n 0) (m:=60) (by decide)
 have w1u:IntKind.i64.wrap (tNv F n 0 400 - 200) = tNv F n 0 400 - 200:=w64 (by omega) (by omega)
 have w2u:IntKind.i64.wrap (1 + tNv F n (tNi n 0) 60) = 1 + tNv F n (tNi n 0) 60:=w64 (by omega) (by omega)
 have cu:-9223372036854775808≤IntKind.i64.wrap (tNv F n 0 400 - 200)∧IntKind.i64.wrap (tNv F n 0 400 - 200)≤9223372036854775807∧1≤IntKind.i64.wrap (1 + tNv F n (tNi n 0) 60)∧IntKind.i64.wrap (1 + tNv F n (tNi n 0) 60)≤9223372036854775807:=by rw [w1u,w2u];omega
 have su:Sz (mkRat (IntKind.i64.wrap (tNv F n 0 400 - 200)) (IntKind.i64.wrap (1 + tNv F n (tNi n 0) 60)).toNat) 5:=sz_mk (szi_nat (by omega)) (szi_nat (by omega))
 have b1v:=tNv_bd F n (tNi n (tNi n 0)) (m:=400) (by decide)
 have b2v:=tNv_bd F n (tNi n (tNi n (tNi n 0))) (m:=60) (by decide)
 have w1v:IntKind.i64.wrap (tNv F n (tNi n (tNi n 0)) 400 - 200) = tNv F n (tNi n (tNi n 0)) 400 - 200:=w64 (by omega) (by omega)
 have w2v:IntKind.i64.wrap (1 + tNv F n (tNi n (tNi n (tNi n 0))) 60) = 1 + tNv F n (tNi n (tNi n (tNi n 0))) 60:=w64 (by omega) (by omega)
 have cv:-9223372036854775808≤IntKind.i64.wrap (tNv F n (tNi n (tNi n 0)) 400 - 200)∧IntKind.i64.wrap (tNv F n (tNi n (tNi n 0)) 400 - 200)≤9223372036854775807∧1≤IntKind.i64.wrap (1 + tNv F n (tNi n (tNi n (tNi n 0))) 60)∧IntKind.i64.wrap (1 + tNv F n (tNi n (tNi n (tNi n 0))) 60)≤9223372036854775807:=by rw [w1v,w2v];omega
 have sv:Sz (mkRat (IntKind.i64.wrap (tNv F n (tNi n (tNi n 0)) 400 - 200)) (IntKind.i64.wrap (1 + tNv F n (tNi n (tNi n (tNi n 0))) 60)).toNat) 5:=sz_mk (szi_nat (by omega)) (szi_nat (by omega))
 have k1:tNi n 0≤n:=tNi_le (Nat.zero_le n)
 have k2:=tNi_le k1
 have k3:=tNi_le k2
 (repeat((conv=>whnf);refine aig ?_))<;>try(conv=>whnf)
 refine And.intro ⟨rfl,hn,fun _ _=>rfl⟩ ?_
 (repeat((conv=>whnf);refine aig ?_))<;>try(conv=>whnf)
 refine And.intro ⟨rfl,Int.natCast_nonneg _,Nat.zero_le _,hn,fun _ _=>rfl,rfl,by decide,by decide⟩ ?_
 (repeat((conv=>whnf);refine aig ?_))<;>try(conv=>whnf)
 refine And.intro ⟨rfl,Int.natCast_nonneg _,k1,hn,fun _ _=>rfl,rfl,by decide,by decide⟩ ?_
 (repeat((conv=>whnf);refine aig ?_))<;>try(conv=>whnf)
 refine And.intro cu ?_
 (repeat((conv=>whnf);refine aig ?_))<;>try(conv=>whnf)
 refine And.intro ⟨rfl,Int.natCast_nonneg _,k2,hn,fun _ _=>rfl,rfl,by decide,by decide⟩ ?_
 (repeat((conv=>whnf);refine aig ?_))<;>try(conv=>whnf)
 refine And.intro ⟨rfl,Int.natCast_nonneg _,k3,hn,fun _ _=>rfl,rfl,by decide,by decide⟩ ?_
 (repeat((conv=>whnf);refine aig ?_))<;>try(conv=>whnf)
 refine And.intro cv ?_
 (repeat((conv=>whnf);refine aig ?_))<;>try(conv=>whnf)
 by_cases hle:(mkRat (IntKind.i64.wrap (tNv F n 0 400 - 200)) (IntKind.i64.wrap (1 + tNv F n (tNi n 0) 60)).toNat)≤(mkRat (IntKind.i64.wrap (tNv F n (tNi n (tNi n 0)) 400 - 200)) (IntKind.i64.wrap (1 + tNv F n (tNi n (tNi n (tNi n 0))) 60)).toNat)
 ·refine ⟨true,⟨by decide,by decide,by decide,fun _=>hle,fun _=>rfl⟩,?_⟩
  (repeat((conv=>whnf);refine aig ?_))<;>try(conv=>whnf)
  refine ⟨((((mkRat (IntKind.i64.wrap (tNv F n 0 400 - 200)) (IntKind.i64.wrap (1 + tNv F n (tNi n 0) 60)).toNat),(mkRat (IntKind.i64.wrap (tNv F n (tNi n (tNi n 0)) 400 - 200)) (IntKind.i64.wrap (1 + tNv F n (tNi n (tNi n (tNi n 0))) 60)).toNat)),5),true),⟨⟨su,by decide,by decide,fun _=>hle,fun _=>rfl⟩,And.intro (And.intro (And.intro rfl (.inl (Nat.le_refl 5))) True.intro) (And.intro (And.intro (And.intro rfl (.inl (Nat.le_refl 5))) True.intro) True.intro)⟩,?_⟩
  (repeat((conv=>whnf);refine aig ?_))<;>try(conv=>whnf)
  (repeat' (first | (refine And.intro (fun h=>?_) (fun _=>?_);focus (exfalso;revert h;first | decide | (simp;done))) | (refine And.intro (fun _=>?_) (fun h=>?_);rotate_left;focus (exfalso;revert h;first | decide | (simp;done))) | ((conv=>whnf);refine aig ?_)))<;>try (conv=>whnf)
  exact congrArg Value.bool (decide_eq_true rfl)
 ·refine ⟨false,⟨by decide,by decide,by decide,fun h=>(by cases h),fun h=>absurd h hle⟩,?_⟩
  (repeat((conv=>whnf);refine aig ?_))<;>try(conv=>whnf)
  refine ⟨((((mkRat (IntKind.i64.wrap (tNv F n 0 400 - 200)) (IntKind.i64.wrap (1 + tNv F n (tNi n 0) 60)).toNat),(mkRat (IntKind.i64.wrap (tNv F n (tNi n (tNi n 0)) 400 - 200)) (IntKind.i64.wrap (1 + tNv F n (tNi n (tNi n (tNi n 0))) 60)).toNat)),5),false),⟨⟨su,by decide,by decide,fun h=>(by cases h),fun h=>absurd h hle⟩,And.intro (And.intro (And.intro rfl (.inl (Nat.le_refl 5))) True.intro) (And.intro (And.intro (And.intro rfl (.inl (Nat.le_refl 5))) True.intro) True.intro)⟩,?_⟩
  (repeat((conv=>whnf);refine aig ?_))<;>try(conv=>whnf)
  (repeat' (first | (refine And.intro (fun h=>?_) (fun _=>?_);focus (exfalso;revert h;first | decide | (simp;done))) | (refine And.intro (fun _=>?_) (fun h=>?_);rotate_left;focus (exfalso;revert h;first | decide | (simp;done))) | ((conv=>whnf);refine aig ?_)))<;>try (conv=>whnf)
theorem smp5_walk {W:World} {v0:Value} {ch:List Int} (h0:Rob (fun _=>False) W (ilAv ch) [v0]) (l:ch.length≤1048576) :
  Calls Tryz.prog 16 #[v0] W (RetB W true):=
 call_b (fn_ok (own:=fun _=>False) (ctx_ok TT_ok [tnew_s,next_s,rROf_s,simp_s,rsim_s,awake5_s,rREq_s]) mixed_ok (fn:=Tryz.f16) (by kernel_rfl) (smp5_x (fun k=>ch.getD k 0) ch.length l) (fun _ h=>h.elim) (.cons h0 .nil))
end Go.Proofs.YtfgkecffpkdjcaaGreat
