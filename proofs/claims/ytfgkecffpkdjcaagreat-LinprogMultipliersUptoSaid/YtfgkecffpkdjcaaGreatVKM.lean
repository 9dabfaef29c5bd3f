/- LinprogMultipliers by the executor. -/
import Derived.Test.YtfgkecffpkdjcaaGreatVKW
import Derived.Test.YtfgkecffpkdjcaaGreatVM
namespace Go.Proofs.YtfgkecffpkdjcaaGreat
open Go.RowKit Gm Go.Vx
set_option maxRecDepth 100000
theorem errV_no {p:Prg} {y:List Rat} (h:errC p y.length p.rows.length≠0):¬ BndOk p y:=fun hb=>h (errC_zero.2 ⟨hb.s.v,hb.s.n⟩)
theorem sgn_fit {f:Nat→Rat} {n:Nat}:fitC (madeAv f n 5) (.cons (madeAv f n 5) .nil):=And.intro rfl (And.intro rfl (made_refl _ _ _))
set_option maxHeartbeats 2000000 in
set_option smartUnfolding false in
theorem mult11_x (p:Prg) (y:List Rat) (K M:Nat) (hy:PY p y K M):fnOk ⟨TT,specsOf [wvalid_s,lred_s,lbnd_s,wbnd_s,lsgd_s,wsgd_s,rREq_s,wred_s,rSame_s]⟩ Tryz.f34 [prgAv p K,rlAv y K] (.kb true):=by
 have b5:=hy.hM
 have b1:=hy.b.r
 have b0:=hy.b.c
 (repeat((conv=>whnf);refine aig ?_))<;>try(conv=>whnf)
 refine ⟨(p,K),⟨hy.b,And.intro (prg_fit p (Nat.le_refl K)) True.intro⟩,?_⟩
 (repeat((conv=>whnf);refine aig ?_))<;>try(conv=>whnf)
 refine And.intro (fun h1=>?_) (fun h1=>?_)
 ·have hv:errV p = 0:=by simpa using h1
  (repeat((conv=>whnf);refine aig ?_))<;>try(conv=>whnf)
  refine And.intro (fun h2=>?_) (fun h2=>?_)
  ·have ec:errC p y.length p.rows.length = 4:=ec_sh hv h2
   have hne:errC p y.length p.rows.length≠0:=by rw [ec];decide
   have hb:¬ BndOk p y:=errV_no hne
   (repeat((conv=>whnf);refine aig ?_))<;>try(conv=>whnf)
   refine ⟨((((p,y),K),M),false),⟨⟨hy,by simpa using hne⟩,And.intro (prg_fit p (Nat.le_refl K)) (And.intro (rl_fit y (Nat.le_refl K)) True.intro)⟩,?_⟩
   (repeat((conv=>whnf);refine aig ?_))<;>try(conv=>whnf)
   refine ⟨((((p,y),K),M),false),⟨⟨hy,by simpa using hb⟩,And.intro (prg_fit p (Nat.le_refl K)) (And.intro (rl_fit y (Nat.le_refl K)) True.intro)⟩,?_⟩
   (repeat((conv=>whnf);refine aig ?_))<;>try(conv=>whnf)
   refine ⟨((((p,y),K),M),false),⟨⟨hy,by simpa using hb⟩,And.intro (prg_fit p (Nat.le_refl K)) (And.intro (rl_fit y (Nat.le_refl K)) True.intro)⟩,?_⟩
   (repeat((conv=>whnf);refine aig ?_))<;>try(conv=>whnf)
   refine And.intro (fun h=>absurd h (by simp [ec])) (fun _=>?_)
   (repeat((conv=>whnf);refine aig ?_))<;>try(conv=>whnf)
   refine ⟨((p,y),K),⟨hy.b,And.intro (prg_fit p (Nat.le_refl K)) (And.intro (rl_fit y (Nat.le_refl K)) True.intro)⟩,?_⟩
   (repeat((conv=>whnf);refine aig ?_))<;>try(conv=>whnf)
   refine ⟨((p,y),K),⟨hy.b,And.intro (prg_fit p (Nat.le_refl K)) (And.intro (rl_fit y (Nat.le_refl K)) True.intro)⟩,?_⟩
   (repeat((conv=>whnf);refine aig ?_))<;>try(conv=>whnf)
   refine And.intro (fun h=>absurd h (by simp)) (fun _=>?_)
   (repeat((conv=>whnf);refine aig ?_))<;>try(conv=>whnf)
   (repeat' (first | (refine And.intro (fun h=>?_) (fun _=>?_);focus (exfalso;revert h;first | decide | (simp;done))) | (refine And.intro (fun _=>?_) (fun h=>?_);rotate_left;focus (exfalso;revert h;first | decide | (simp;done))) | ((conv=>whnf);refine aig ?_)))<;>try (conv=>whnf)
  ·have he:errC p y.length p.rows.length = 0:=ec_ok hv h2
   by_cases hb:BndOk p y
   ·(repeat((conv=>whnf);refine aig ?_))<;>try(conv=>whnf)
    refine ⟨((((p,y),K),M),true),⟨⟨hy,⟨fun _=>he,fun _=>rfl⟩⟩,And.intro (prg_fit p (Nat.le_refl K)) (And.intro (rl_fit y (Nat.le_refl K)) True.intro)⟩,?_⟩
    (repeat((conv=>whnf);refine aig ?_))<;>try(conv=>whnf)
    refine ⟨((((p,y),K),M),true),⟨⟨hy,by simpa using hb⟩,And.intro (prg_fit p (Nat.le_refl K)) (And.intro (rl_fit y (Nat.le_refl K)) True.intro)⟩,?_⟩
    (repeat((conv=>whnf);refine aig ?_))<;>try(conv=>whnf)
    refine ⟨((((p,y),K),M),true),⟨⟨hy,by simpa using hb⟩,And.intro (prg_fit p (Nat.le_refl K)) (And.intro (rl_fit y (Nat.le_refl K)) True.intro)⟩,?_⟩
    (repeat((conv=>whnf);refine aig ?_))<;>try(conv=>whnf)
    refine And.intro (fun h=>absurd h (by simp [hv])) (fun _=>?_)
    (repeat((conv=>whnf);refine aig ?_))<;>try(conv=>whnf)
    refine ⟨((p,y),K),⟨hy.b,And.intro (prg_fit p (Nat.le_refl K)) (And.intro (rl_fit y (Nat.le_refl K)) True.intro)⟩,?_⟩
    (repeat((conv=>whnf);refine aig ?_))<;>try(conv=>whnf)
    refine ⟨((p,y),K),⟨hy.b,And.intro (prg_fit p (Nat.le_refl K)) (And.intro (rl_fit y (Nat.le_refl K)) True.intro)⟩,?_⟩
    (repeat((conv=>whnf);refine aig ?_))<;>try(conv=>whnf)
    refine And.intro (fun h=>absurd h (by simp)) (fun _=>?_)
    (repeat((conv=>whnf);refine aig ?_))<;>try(conv=>whnf)
    (repeat' (first | (refine And.intro (fun h=>?_) (fun _=>?_);focus (exfalso;revert h;first | decide | (simp;done) | (simp [hv];done))) | (refine And.intro (fun _=>?_) (fun h=>?_);rotate_left;focus (exfalso;revert h;first | decide | (simp;done) | (simp [hv];done))) | ((conv=>whnf);refine aig ?_)))<;>try (conv=>whnf)
    refine ⟨(((p,y),K),M),⟨⟨hy,errV_zero.1 hv,(errC_zero.1 he).2⟩,And.intro (prg_fit p (Nat.le_refl K)) (And.intro (rl_fit y (Nat.le_refl K)) True.intro)⟩,?_⟩
    (repeat((conv=>whnf);refine aig ?_))<;>try(conv=>whnf)
    refine ⟨(((((red p y,p.cols.length),M),red p y),p.cols.length),M),⟨⟨b0,by omega,by omega⟩,And.intro (And.intro rfl (And.intro rfl (made_refl _ _ _))) (And.intro (And.intro rfl (And.intro rfl (made_refl _ _ _))) True.intro)⟩,?_⟩
    (repeat((conv=>whnf);refine aig ?_))<;>try(conv=>whnf)
    exact pb_t.2 ⟨rfl,fun _ _=>rfl⟩
   ·(repeat((conv=>whnf);refine aig ?_))<;>try(conv=>whnf)
    refine ⟨((((p,y),K),M),true),⟨⟨hy,⟨fun _=>he,fun _=>rfl⟩⟩,And.intro (prg_fit p (Nat.le_refl K)) (And.intro (rl_fit y (Nat.le_refl K)) True.intro)⟩,?_⟩
    (repeat((conv=>whnf);refine aig ?_))<;>try(conv=>whnf)
    refine ⟨((((p,y),K),M),false),⟨⟨hy,by simpa using hb⟩,And.intro (prg_fit p (Nat.le_refl K)) (And.intro (rl_fit y (Nat.le_refl K)) True.intro)⟩,?_⟩
    (repeat((conv=>whnf);refine aig ?_))<;>try(conv=>whnf)
    refine ⟨((((p,y),K),M),false),⟨⟨hy,by simpa using hb⟩,And.intro (prg_fit p (Nat.le_refl K)) (And.intro (rl_fit y (Nat.le_refl K)) True.intro)⟩,?_⟩
    (repeat((conv=>whnf);refine aig ?_))<;>try(conv=>whnf)
    refine And.intro (fun h=>absurd h (by simp [hv])) (fun _=>?_)
    (repeat((conv=>whnf);refine aig ?_))<;>try(conv=>whnf)
    refine ⟨((p,y),K),⟨hy.b,And.intro (prg_fit p (Nat.le_refl K)) (And.intro (rl_fit y (Nat.le_refl K)) True.intro)⟩,?_⟩
    (repeat((conv=>whnf);refine aig ?_))<;>try(conv=>whnf)
    refine ⟨((p,y),K),⟨hy.b,And.intro (prg_fit p (Nat.le_refl K)) (And.intro (rl_fit y (Nat.le_refl K)) True.intro)⟩,?_⟩
    (repeat((conv=>whnf);refine aig ?_))<;>try(conv=>whnf)
    refine And.intro (fun h=>absurd h (by simp)) (fun _=>?_)
    (repeat((conv=>whnf);refine aig ?_))<;>try(conv=>whnf)
    (repeat' (first | (refine And.intro (fun h=>?_) (fun _=>?_);focus (exfalso;revert h;first | decide | (simp;done) | (simp [hv];done))) | (refine And.intro (fun _=>?_) (fun h=>?_);rotate_left;focus (exfalso;revert h;first | decide | (simp;done) | (simp [hv];done))) | ((conv=>whnf);refine aig ?_)))<;>try (conv=>whnf)
    refine ⟨(((p,y),K),M),⟨⟨hy,errV_zero.1 hv,(errC_zero.1 he).2⟩,And.intro (prg_fit p (Nat.le_refl K)) (And.intro (rl_fit y (Nat.le_refl K)) True.intro)⟩,?_⟩
    (repeat((conv=>whnf);refine aig ?_))<;>try(conv=>whnf)
    refine ⟨(((((red p y,p.cols.length),M),red p y),p.cols.length),M),⟨⟨b0,by omega,by omega⟩,And.intro (And.intro rfl (And.intro rfl (made_refl _ _ _))) (And.intro (And.intro rfl (And.intro rfl (made_refl _ _ _))) True.intro)⟩,?_⟩
    (repeat((conv=>whnf);refine aig ?_))<;>try(conv=>whnf)
    exact pb_t.2 ⟨rfl,fun _ _=>rfl⟩
 ·have hv:¬ errV p = 0:=by simpa using h1
  have ec:errC p y.length p.rows.length = errV p:=ec_err (by simpa using hv)
  have hne:errC p y.length p.rows.length≠0:=by rw [ec];exact hv
  have hb:¬ BndOk p y:=errV_no hne
  (repeat((conv=>whnf);refine aig ?_))<;>try(conv=>whnf)
  refine ⟨((((p,y),K),M),false),⟨⟨hy,by simpa using hne⟩,And.intro (prg_fit p (Nat.le_refl K)) (And.intro (rl_fit y (Nat.le_refl K)) True.intro)⟩,?_⟩
  (repeat((conv=>whnf);refine aig ?_))<;>try(conv=>whnf)
  refine ⟨((((p,y),K),M),false),⟨⟨hy,by simpa using hb⟩,And.intro (prg_fit p (Nat.le_refl K)) (And.intro (rl_fit y (Nat.le_refl K)) True.intro)⟩,?_⟩
  (repeat((conv=>whnf);refine aig ?_))<;>try(conv=>whnf)
  refine ⟨((((p,y),K),M),false),⟨⟨hy,by simpa using hb⟩,And.intro (prg_fit p (Nat.le_refl K)) (And.intro (rl_fit y (Nat.le_refl K)) True.intro)⟩,?_⟩
  (repeat((conv=>whnf);refine aig ?_))<;>try(conv=>whnf)
  refine And.intro (fun h=>absurd h (by simp [ec])) (fun _=>?_)
  (repeat((conv=>whnf);refine aig ?_))<;>try(conv=>whnf)
  refine ⟨((p,y),K),⟨hy.b,And.intro (prg_fit p (Nat.le_refl K)) (And.intro (rl_fit y (Nat.le_refl K)) True.intro)⟩,?_⟩
  (repeat((conv=>whnf);refine aig ?_))<;>try(conv=>whnf)
  refine ⟨((p,y),K),⟨hy.b,And.intro (prg_fit p (Nat.le_refl K)) (And.intro (rl_fit y (Nat.le_refl K)) True.intro)⟩,?_⟩
  (repeat((conv=>whnf);refine aig ?_))<;>try(conv=>whnf)
  refine And.intro (fun h=>absurd h (by simp)) (fun _=>?_)
  (repeat((conv=>whnf);refine aig ?_))<;>try(conv=>whnf)
  (repeat' (first | (refine And.intro (fun h=>?_) (fun _=>?_);focus (exfalso;revert h;first | decide | (simp;done) | (simp [hv];done))) | (refine And.intro (fun _=>?_) (fun h=>?_);rotate_left;focus (exfalso;revert h;first | decide | (simp;done) | (simp [hv];done))) | ((conv=>whnf);refine aig ?_)))<;>try (conv=>whnf)
noncomputable def mult11_s:PSpec Tryz.prog:=⟨34,ghSpec (((Prg × List Rat) × Nat) × Nat) (fun | (((c0,c1),c2),_)=>[prgAv c0 c2,rlAv c1 c2]) (fun | (((c0,c1),c2),c3)=>PY c0 c1 c2 c3) (fun | (((_,_),_),_)=>.kb true),ghSpec_ok (fn:=Tryz.f34) (ctx_ok TT_ok [wvalid_s,lred_s,lbnd_s,wbnd_s,lsgd_s,wsgd_s,rREq_s,wred_s,rSame_s]) mixed_ok (by kernel_rfl) (fun | (((c0,c1),c2),c3),hp=>mult11_x c0 c1 c2 c3 hp),by kernel_rfl⟩
set_option maxHeartbeats 2000000 in
set_option smartUnfolding false in
theorem mu11_x (p:Prg) (y:List Rat) (K M:Nat) (hb0:PB p K) (hy0:PY p (y.take 20) K M) (F G:Nat→Int) (n m:Nat) (hn:n≤1048576) (hm:m≤1048576):fnOk ⟨TT,specsOf [gprg_s,tnew_s,trats_s,aw11_s,sml11_s,first_s,mult11_s,sgnd_s,next_s]⟩ Tryz.f5 [prgAv p K,rlAv y K,tA F n,tA G m] (.val (.bool true)):=by
 obtain ⟨q,hq⟩:∃ q,q = gPrg F n 0 4 4:=⟨_,rfl⟩
 have q1:=hq ▸ gp_bd F n
 have hb:PB q 5:=hq ▸ pb_prg4 F n 0 (by decide)
 have hw:Wt (prgN q) 100:=hq ▸ wt_prg4 F n 0
 have ht:=tRsI_le (n:=m) (Nat.zero_le m) q.rows.length
 have hv5:=tNv_bd G m (tRsI m 0 q.rows.length) (m:=5) (by decide)
 have hr:(tNv G m (tRsI m 0 q.rows.length) 5).toNat≤4:=by omega
 have hz1:Wt (prgN q ++ (List.range q.rows.length).map (tRsV G m 0)) 108:=(hw.app (wt_fun q.rows.length (sz_trs G m 0))).mono (by omega)
 have hs2:∀ i,Sz (sgnF q (tRsV G m 0) i) 2:=fun i=>sgn_sz (sz_trs G m 0 i)
 have hz2:Wt (prgN q ++ (List.range q.rows.length).map (sgnF q (tRsV G m 0))) 108:=(hw.app (wt_fun q.rows.length hs2)).mono (by omega)
 have hz3:Wt (prgN q ++ (List.range (tNv G m (tRsI m 0 q.rows.length) 5).toNat).map (tRsV G m (tNi m (tRsI m 0 q.rows.length)))) 108:=(hw.app (wt_fun (tNv G m (tRsI m 0 q.rows.length) 5).toNat (sz_trs G m (tNi m (tRsI m 0 q.rows.length))))).mono (by omega)
 have p1:PY q ((List.range q.rows.length).map (tRsV G m 0)) 5 651:=py_of hb hz1 (by decide)
 have p2:PY q ((List.range q.rows.length).map (sgnF q (tRsV G m 0))) 5 651:=py_of hb hz2 (by decide)
 have p3:PY q ((List.range (tNv G m (tRsI m 0 q.rows.length) 5).toNat).map (tRsV G m (tNi m (tRsI m 0 q.rows.length)))) 5 651:=py_of hb hz3 (by decide)
 have fq:fitC (prgAv q 5) (.cons (prgAv q 5) .nil):=prg_fit q (Nat.le_refl 5)
 (repeat((conv=>whnf);refine aig ?_))<;>try(conv=>whnf)
 refine ⟨((F,n),q),⟨⟨hn,hq⟩,And.intro (tA_fit F n) True.intro⟩,?_⟩
 (repeat((conv=>whnf);refine aig ?_))<;>try(conv=>whnf)
 refine And.intro ⟨rfl,hm,fun _ _=>rfl⟩ ?_
 (repeat((conv=>whnf);refine aig ?_))<;>try(conv=>whnf)
 refine And.intro ⟨rfl,Int.natCast_nonneg _,Nat.zero_le _,hm,fun _ _=>rfl,rfl,Int.natCast_nonneg _,by show (q.rows.length:Int)≤1048576;omega⟩ ?_
 (repeat((conv=>whnf);refine aig ?_))<;>try(conv=>whnf)
 refine ⟨(p,K),⟨hb0,And.intro (prg_fit p (Nat.le_refl K)) True.intro⟩,?_⟩
 (repeat((conv=>whnf);refine aig ?_))<;>try(conv=>whnf)
 refine And.intro (fun _=>?_) (fun _=>?_)
 ·(repeat((conv=>whnf);refine aig ?_))<;>try(conv=>whnf)
  refine ⟨(((q,(List.range q.rows.length).map (tRsV G m 0)),5),651),⟨p1,And.intro fq (And.intro (made_fit _ _ (Nat.le_refl 5)) True.intro)⟩,?_⟩
  (repeat((conv=>whnf);refine aig ?_))<;>try(conv=>whnf)
  refine ⟨((((q,tRsV G m 0),5),q.rows.length),5),⟨⟨hb,Nat.le_refl _,by decide⟩,And.intro fq (And.intro sgn_fit True.intro)⟩,?_⟩
  (repeat((conv=>whnf);refine aig ?_))<;>try(conv=>whnf)
  refine ⟨(((q,(List.range q.rows.length).map (sgnF q (tRsV G m 0))),5),651),⟨p2,And.intro fq (And.intro (made_fit _ _ (Nat.le_refl 5)) True.intro)⟩,?_⟩
  (repeat((conv=>whnf);refine aig ?_))<;>try(conv=>whnf)
  refine And.intro ⟨rfl,Int.natCast_nonneg _,ht,hm,fun _ _=>rfl,rfl,by decide,by decide⟩ ?_
  (repeat((conv=>whnf);refine aig ?_))<;>try(conv=>whnf)
  refine And.intro ⟨rfl,Int.natCast_nonneg _,tNi_le ht,hm,fun _ _=>rfl,rfl,hv5.1,by show tNv G m (tRsI m 0 q.rows.length) 5≤1048576;omega⟩ ?_
  (repeat((conv=>whnf);refine aig ?_))<;>try(conv=>whnf)
  refine ⟨(((q,(List.range (tNv G m (tRsI m 0 q.rows.length) 5).toNat).map (tRsV G m (tNi m (tRsI m 0 q.rows.length)))),5),651),⟨p3,And.intro fq (And.intro (made_fit _ _ (Nat.le_refl 5)) True.intro)⟩,?_⟩
  (repeat((conv=>whnf);refine aig ?_))<;>try(conv=>whnf)
 ·(repeat((conv=>whnf);refine aig ?_))<;>try(conv=>whnf)
  refine ⟨(y,K),⟨Nat.zero_le _,And.intro (rl_fit y (Nat.le_refl K)) (And.intro rfl True.intro)⟩,?_⟩
  (repeat((conv=>whnf);refine aig ?_))<;>try(conv=>whnf)
  refine ⟨(((p,y.take 20),K),M),⟨hy0,And.intro (prg_fit p (Nat.le_refl K)) (And.intro (rl_fit _ (Nat.le_refl K)) True.intro)⟩,?_⟩
  (repeat((conv=>whnf);refine aig ?_))<;>try(conv=>whnf)
  refine ⟨(((q,(List.range q.rows.length).map (tRsV G m 0)),5),651),⟨p1,And.intro fq (And.intro (made_fit _ _ (Nat.le_refl 5)) True.intro)⟩,?_⟩
  (repeat((conv=>whnf);refine aig ?_))<;>try(conv=>whnf)
  refine ⟨((((q,tRsV G m 0),5),q.rows.length),5),⟨⟨hb,Nat.le_refl _,by decide⟩,And.intro fq (And.intro sgn_fit True.intro)⟩,?_⟩
  (repeat((conv=>whnf);refine aig ?_))<;>try(conv=>whnf)
  refine ⟨(((q,(List.range q.rows.length).map (sgnF q (tRsV G m 0))),5),651),⟨p2,And.intro fq (And.intro (made_fit _ _ (Nat.le_refl 5)) True.intro)⟩,?_⟩
  (repeat((conv=>whnf);refine aig ?_))<;>try(conv=>whnf)
  refine And.intro ⟨rfl,Int.natCast_nonneg _,ht,hm,fun _ _=>rfl,rfl,by decide,by decide⟩ ?_
  (repeat((conv=>whnf);refine aig ?_))<;>try(conv=>whnf)
  refine And.intro ⟨rfl,Int.natCast_nonneg _,tNi_le ht,hm,fun _ _=>rfl,rfl,hv5.1,by show tNv G m (tRsI m 0 q.rows.length) 5≤1048576;omega⟩ ?_
  (repeat((conv=>whnf);refine aig ?_))<;>try(conv=>whnf)
  refine ⟨(((q,(List.range (tNv G m (tRsI m 0 q.rows.length) 5).toNat).map (tRsV G m (tNi m (tRsI m 0 q.rows.length)))),5),651),⟨p3,And.intro fq (And.intro (made_fit _ _ (Nat.le_refl 5)) True.intro)⟩,?_⟩
  (repeat((conv=>whnf);refine aig ?_))<;>try(conv=>whnf)
theorem mu11_walk {W:World} {v0 v1 v2 v3:Value} {p:Prg} {y:List Rat} {ch:List Int} {nu:List Int} (h0:Rob (fun _=>False) W (prgAv p 1048576) [v0]) (h1:Rob (fun _=>False) W (rlAv y 1048576) [v1]) (h2:Rob (fun _=>False) W (ilAv ch) [v2]) (h3:Rob (fun _=>False) W (ilAv nu) [v3]) {n0 n1:Nat} (w0:Wt (prgN p) n0) (w1:Wt y n1) (b0:PB p 1048576) (hn:n0 + n1≤1048576) (l3:ch.length≤1048576) (l4:nu.length≤1048576) :
  Calls Tryz.prog 5 #[v0,v1,v2,v3] W (RetB W true):=
 call_b (fn_ok (own:=fun _=>False) (ctx_ok TT_ok [gprg_s,tnew_s,trats_s,aw11_s,sml11_s,first_s,mult11_s,sgnd_s,next_s]) mixed_ok (fn:=Tryz.f5) (by kernel_rfl) (mu11_x p y 1048576 (6 * 1048576 + 3) b0 (py_of b0 ((w0.app (wt_take w1 20)).mono (by omega)) (by decide)) (fun k=>ch.getD k 0) (fun k=>nu.getD k 0) ch.length nu.length l3 l4) (fun _ h=>h.elim) (.cons h0 (.cons h1 (.cons h2 (.cons h3 .nil)))))
end Go.Proofs.YtfgkecffpkdjcaaGreat
