/- CertifyExact by the executor. -/
import Derived.Test.YtfgkecffpkdjcaaGreatVKA
import Derived.Test.YtfgkecffpkdjcaaGreatVM
import Derived.Test.YtfgkecffpkdjcaaGreatOC
namespace Go.Proofs.YtfgkecffpkdjcaaGreat
open Go.RowKit Gm Go.Vx
set_option maxRecDepth 100000
theorem one_fit (q:Rat) {K L:Nat} (h:K≤L):fitC (rAv q L) (.cons (qAv q K) .nil):=And.intro (And.intro rfl (.inl h)) True.intro
set_option maxHeartbeats 2000000 in
set_option smartUnfolding false in
theorem agr_x (p:Prg) (x y r:List Rat) (v:Rat) (s:Int) (sv:Rat) (sx sy sr:List Rat) (b c:List Int) (K M:Nat) (hx:PX p x K M) (hy:PY p y K M) (hr:PX p r K M) (hf:PY p.free y K M) (hs:PS p sx sy sr K M):fnOk ⟨TT,specsOf [copt_s,wopt_s,catl_s,watl_s,cinf_s,winf_s,cunb_s,wunb_s,csol_s,wsol_s]⟩ Tryz.f64 [prgAv p K,rlAv x K,rlAv y K,rlAv r K,rAv v K,.agg (solC s sv sx sy sr b c K)] (.kb true):=by
 have b4:=hx.b.hK
 have b5:=hx.hM
 have h2:=hs.two
 (repeat((conv=>whnf);refine aig ?_))<;>try(conv=>whnf)
 refine ⟨((((p,x),y),K),M),⟨⟨hx,hy⟩,And.intro (prg_fit p (Nat.le_refl K)) (And.intro (rl_fit x (Nat.le_refl K)) (And.intro (rl_fit y (Nat.le_refl K)) (True.intro)))⟩,?_⟩
 (repeat((conv=>whnf);refine aig ?_))<;>try(conv=>whnf)
 refine ⟨((((p,x),y),K),M),⟨⟨hx,hy⟩,And.intro (prg_fit p (Nat.le_refl K)) (And.intro (rl_fit x (Nat.le_refl K)) (And.intro (rl_fit y (Nat.le_refl K)) (True.intro)))⟩,?_⟩
 (repeat' (first | (refine And.intro (fun h=>?_) (fun _=>?_);focus (exfalso;revert h;first | decide | (simp;done))) | (refine And.intro (fun _=>?_) (fun h=>?_);rotate_left;focus (exfalso;revert h;first | decide | (simp;done))) | ((conv=>whnf);refine aig ?_)))<;>try (conv=>whnf)
 refine ⟨((((p,y),v),K),M),⟨hy,And.intro (prg_fit p (Nat.le_refl K)) (And.intro (rl_fit y (Nat.le_refl K)) (And.intro (rat_fit v (Nat.le_refl K)) True.intro))⟩,?_⟩
 (repeat((conv=>whnf);refine aig ?_))<;>try(conv=>whnf)
 refine ⟨((((p,y),v),K),M),⟨hy,And.intro (prg_fit p (Nat.le_refl K)) (And.intro (rl_fit y (Nat.le_refl K)) (And.intro (rat_fit v (Nat.le_refl K)) True.intro))⟩,?_⟩
 (repeat' (first | (refine And.intro (fun h=>?_) (fun _=>?_);focus (exfalso;revert h;first | decide | (simp;done))) | (refine And.intro (fun _=>?_) (fun h=>?_);rotate_left;focus (exfalso;revert h;first | decide | (simp;done))) | ((conv=>whnf);refine aig ?_)))<;>try (conv=>whnf)
 refine ⟨(((p,y),K),M),⟨⟨hf,h2⟩,And.intro (prg_fit p (Nat.le_refl K)) (And.intro (rl_fit y (Nat.le_refl K)) (True.intro))⟩,?_⟩
 (repeat((conv=>whnf);refine aig ?_))<;>try(conv=>whnf)
 refine ⟨(((p,y),K),M),⟨⟨hx.b,hf,h2⟩,And.intro (prg_fit p (Nat.le_refl K)) (And.intro (rl_fit y (Nat.le_refl K)) (True.intro))⟩,?_⟩
 (repeat' (first | (refine And.intro (fun h=>?_) (fun _=>?_);focus (exfalso;revert h;first | decide | (simp;done))) | (refine And.intro (fun _=>?_) (fun h=>?_);rotate_left;focus (exfalso;revert h;first | decide | (simp;done))) | ((conv=>whnf);refine aig ?_)))<;>try (conv=>whnf)
 refine ⟨((((p,x),r),K),M),⟨⟨hx,hr⟩,And.intro (prg_fit p (Nat.le_refl K)) (And.intro (rl_fit x (Nat.le_refl K)) (And.intro (rl_fit r (Nat.le_refl K)) (True.intro)))⟩,?_⟩
 (repeat((conv=>whnf);refine aig ?_))<;>try(conv=>whnf)
 refine ⟨((((p,x),r),K),M),⟨⟨hx,hr⟩,And.intro (prg_fit p (Nat.le_refl K)) (And.intro (rl_fit x (Nat.le_refl K)) (And.intro (rl_fit r (Nat.le_refl K)) (True.intro)))⟩,?_⟩
 (repeat' (first | (refine And.intro (fun h=>?_) (fun _=>?_);focus (exfalso;revert h;first | decide | (simp;done))) | (refine And.intro (fun _=>?_) (fun h=>?_);rotate_left;focus (exfalso;revert h;first | decide | (simp;done))) | ((conv=>whnf);refine aig ?_)))<;>try (conv=>whnf)
 refine ⟨(((((((((p,s),sv),sx),sy),sr),b),c),K),M),⟨hs,And.intro (prg_fit p (Nat.le_refl K)) (And.intro (sol_fit s sv sx sy sr b c (Nat.le_refl K)) True.intro)⟩,?_⟩
 (repeat((conv=>whnf);refine aig ?_))<;>try(conv=>whnf)
 refine ⟨(((((((((p,s),sv),sx),sy),sr),b),c),K),M),⟨hs,And.intro (prg_fit p (Nat.le_refl K)) (And.intro (sol_fit s sv sx sy sr b c (Nat.le_refl K)) True.intro)⟩,?_⟩
 (repeat((conv=>whnf);refine aig ?_))<;>try(conv=>whnf)
 exact beq_self_eq_true _
noncomputable def agr_s:PSpec Tryz.prog:=⟨64,ghSpec (((((((((((((Prg × List Rat) × List Rat) × List Rat) × Rat) × Int) × Rat) × List Rat) × List Rat) × List Rat) × List Int) × List Int) × Nat) × Nat) (fun | (((((((((((((p,x),y),r),v),s),sv),sx),sy),sr),b),c),K),_)=>[prgAv p K,rlAv x K,rlAv y K,rlAv r K,rAv v K,.agg (solC s sv sx sy sr b c K)]) (fun | (((((((((((((p,x),y),r),_),_),_),sx),sy),sr),_),_),K),M)=>PX p x K M∧PY p y K M∧PX p r K M∧PY p.free y K M∧PS p sx sy sr K M) (fun _=>.kb true),ghSpec_ok (fn:=Tryz.f64) (ctx_ok TT_ok [copt_s,wopt_s,catl_s,watl_s,cinf_s,winf_s,cunb_s,wunb_s,csol_s,wsol_s]) mixed_ok (by kernel_rfl) (fun | (((((((((((((p,x),y),r),v),s),sv),sx),sy),sr),b),c),K),M),hp=>agr_x p x y r v s sv sx sy sr b c K M hp.1 hp.2.1 hp.2.2.1 hp.2.2.2.1 hp.2.2.2.2),by kernel_rfl⟩
set_option maxHeartbeats 4000000 in
set_option smartUnfolding false in
theorem xact12_x (p:Prg) (x y r:List Rat) (v:Rat) (s:Int) (sv:Rat) (sx sy sr:List Rat) (b c:List Int) (K M:Nat) (hb0:PB p K) (hx:PX p (x.take 20) K M) (hy:PY p (y.take 20) K M) (hr:PX p (r.take 20) K M) (hf:PY p.free (y.take 20) K M) (hs:PS p (sx.take 20) (sy.take 20) (sr.take 20) K M) (F G:Nat→Int) (n m:Nat) (hn:n≤1048576) (hm:m≤1048576):fnOk ⟨TT,specsOf [first_s,gprg_s,tnew_s,trats_s,next_s,trat_s,aw12_s,sml_s,agr_s]⟩ Tryz.f14 [prgAv p K,rlAv x K,rlAv y K,rlAv r K,rAv v K,.agg (solC s sv sx sy sr b c K),tA F n,tA G m] (.val (.bool true)):=by
 obtain ⟨q,hq⟩:∃ q,q = gPrg F n 0 4 4:=⟨_,rfl⟩
 have q1:=hq ▸ gp_bd F n
 have hb:PB q 5:=hq ▸ pb_prg4 F n 0 (by decide)
 have hw:Wt (prgN q) 100:=hq ▸ wt_prg4 F n 0
 have fq:fitC (prgAv q 5) (.cons (prgAv q 5) .nil):=prg_fit q (Nat.le_refl 5)
 have t1:tRsI m 0 q.cols.length≤m:=tRsI_le (Nat.zero_le m) _
 have t2:tRsI m (tRsI m 0 q.cols.length) q.rows.length≤m:=tRsI_le t1 _
 have wl:∀ (L:List Rat),Wt L 8→Wt (prgN q ++ L) 108:=fun L h=>(hw.app h).mono (by decide)
 have wf:∀ (L:List Rat),Wt L 8→Wt (prgN q.free ++ L) 108:=fun L h=>((wt_free hw).app h).mono (by decide)
 have wC:∀ i,Wt ((List.range q.cols.length).map (tRsV G m i)) 8:=fun i=>(wt_fun q.cols.length (sz_trs G m i)).mono (by omega)
 have wR:∀ i,Wt ((List.range q.rows.length).map (tRsV G m i)) 8:=fun i=>(wt_fun q.rows.length (sz_trs G m i)).mono (by omega)
 have pA:PX q ((List.range q.cols.length).map (tRsV G m 0)) 5 651:=px_of hb (wl _ (wC _)) (by decide)
 have pC:PX q ((List.range q.cols.length).map (tRsV G m (tRsI m (tRsI m 0 q.cols.length) q.rows.length))) 5 651:=px_of hb (wl _ (wC _)) (by decide)
 have p0:PX q [] 5 651:=px_of hb (wl _ (Wt.nil 8)) (by decide)
 have yB:PY q ((List.range q.rows.length).map (tRsV G m (tRsI m 0 q.cols.length))) 5 651:=py_of hb (wl _ (wR _)) (by decide)
 have y0:PY q [] 5 651:=py_of hb (wl _ (Wt.nil 8)) (by decide)
 have fB:PY q.free ((List.range q.rows.length).map (tRsV G m (tRsI m 0 q.cols.length))) 5 651:=py_of (pb_free hb) (wf _ (wR _)) (by decide)
 have f0:PY q.free [] 5 651:=py_of (pb_free hb) (wf _ (Wt.nil 8)) (by decide)
 have t3:tRsI m (tRsI m (tRsI m 0 q.cols.length) q.rows.length) q.cols.length≤m:=tRsI_le t2 _
 (repeat((conv=>whnf);refine aig ?_))<;>try(conv=>whnf)
 refine ⟨(x,K),⟨Nat.zero_le _,And.intro (rl_fit x (Nat.le_refl K)) (And.intro rfl True.intro)⟩,?_⟩
 (repeat((conv=>whnf);refine aig ?_))<;>try(conv=>whnf)
 refine ⟨(y,K),⟨Nat.zero_le _,And.intro (rl_fit y (Nat.le_refl K)) (And.intro rfl True.intro)⟩,?_⟩
 (repeat((conv=>whnf);refine aig ?_))<;>try(conv=>whnf)
 refine ⟨(r,K),⟨Nat.zero_le _,And.intro (rl_fit r (Nat.le_refl K)) (And.intro rfl True.intro)⟩,?_⟩
 (repeat((conv=>whnf);refine aig ?_))<;>try(conv=>whnf)
 refine ⟨(sx,K),⟨Nat.zero_le _,And.intro (rl_fit sx (Nat.le_refl K)) (And.intro rfl True.intro)⟩,?_⟩
 (repeat((conv=>whnf);refine aig ?_))<;>try(conv=>whnf)
 refine ⟨(sy,K),⟨Nat.zero_le _,And.intro (rl_fit sy (Nat.le_refl K)) (And.intro rfl True.intro)⟩,?_⟩
 (repeat((conv=>whnf);refine aig ?_))<;>try(conv=>whnf)
 refine ⟨(sr,K),⟨Nat.zero_le _,And.intro (rl_fit sr (Nat.le_refl K)) (And.intro rfl True.intro)⟩,?_⟩
 (repeat((conv=>whnf);refine aig ?_))<;>try(conv=>whnf)
 refine ⟨((F,n),q),⟨⟨hn,hq⟩,And.intro (tA_fit F n) True.intro⟩,?_⟩
 (repeat((conv=>whnf);refine aig ?_))<;>try(conv=>whnf)
 refine And.intro ⟨rfl,hm,fun _ _=>rfl⟩ ?_
 (repeat((conv=>whnf);refine aig ?_))<;>try(conv=>whnf)
 refine And.intro ⟨rfl,Int.natCast_nonneg _,Nat.zero_le _,hm,fun _ _=>rfl,rfl,Int.natCast_nonneg _,by show (q.cols.length:Int)≤1048576;omega⟩ ?_
 (repeat((conv=>whnf);refine aig ?_))<;>try(conv=>whnf)
 refine And.intro ⟨rfl,Int.natCast_nonneg _,t1,hm,fun _ _=>rfl,rfl,Int.natCast_nonneg _,by show (q.rows.length:Int)≤1048576;omega⟩ ?_
 (repeat((conv=>whnf);refine aig ?_))<;>try(conv=>whnf)
 refine And.intro ⟨rfl,Int.natCast_nonneg _,t2,hm,fun _ _=>rfl,rfl,Int.natCast_nonneg _,by show (q.cols.length:Int)≤1048576;omega⟩ ?_
 (repeat((conv=>whnf);refine aig ?_))<;>try(conv=>whnf)
 refine And.intro ⟨rfl,Int.natCast_nonneg _,t3,hm,fun _ _=>rfl,rfl,by decide,by decide⟩ ?_
 (repeat((conv=>whnf);refine aig ?_))<;>try(conv=>whnf)
 refine And.intro ⟨rfl,Int.natCast_nonneg _,tNi_le t3,hm,fun _ _=>rfl,rfl⟩ ?_
 (repeat((conv=>whnf);refine aig ?_))<;>try(conv=>whnf)
 have t4:tRatI m (tNi m (tRsI m (tRsI m (tRsI m 0 q.cols.length) q.rows.length) q.cols.length))≤m:=tRatI_le (tNi_le t3)
 refine And.intro (fun z1=>?_) (fun z1=>?_)
 ·(repeat((conv=>whnf);refine aig ?_))<;>try(conv=>whnf)
  refine ⟨(p,K),⟨hb0,And.intro (prg_fit p (Nat.le_refl K)) True.intro⟩,?_⟩
  (repeat((conv=>whnf);refine aig ?_))<;>try(conv=>whnf)
  refine And.intro (fun _=>?_) (fun _=>?_)
  ·(repeat((conv=>whnf);refine aig ?_))<;>try(conv=>whnf)
   refine And.intro ⟨rfl,Int.natCast_nonneg _,t4,hm,fun _ _=>rfl,rfl⟩ ?_
   (repeat((conv=>whnf);refine aig ?_))<;>try(conv=>whnf)
   refine ⟨(((((((((((((q,((List.range q.cols.length).map (tRsV G m 0))),((List.range q.rows.length).map (tRsV G m (tRsI m 0 q.cols.length)))),((List.range q.cols.length).map (tRsV G m (tRsI m (tRsI m 0 q.cols.length) q.rows.length)))),tRatV G m (tRatI m (tNi m (tRsI m (tRsI m (tRsI m 0 q.cols.length) q.rows.length) q.cols.length)))),tNv G m (tRsI m (tRsI m (tRsI m 0 q.cols.length) q.rows.length) q.cols.length) 4),mkRat 0 0),[]),((List.range q.rows.length).map (tRsV G m (tRsI m 0 q.cols.length)))),[]),[]),[]),5),651),⟨⟨pA,yB,pC,fB,⟨p0,p0,yB,fB,by decide⟩⟩,And.intro fq (And.intro (made_fit _ _ (Nat.le_refl 5)) (And.intro (made_fit _ _ (Nat.le_refl 5)) (And.intro (made_fit _ _ (Nat.le_refl 5)) (And.intro (one_fit _ (Nat.le_refl 5)) (And.intro (And.intro rfl (And.intro (And.intro rfl (by decide)) (And.intro (rfl) (And.intro (made_fit _ _ (Nat.le_refl 5)) (And.intro (rfl) (And.intro rfl (And.intro rfl True.intro))))))) True.intro)))))⟩,?_⟩
   (repeat((conv=>whnf);refine aig ?_))<;>try(conv=>whnf)
  ·(repeat((conv=>whnf);refine aig ?_))<;>try(conv=>whnf)
   refine ⟨(((((((((((((p,x.take 20),y.take 20),r.take 20),v),s),sv),sx.take 20),sy.take 20),sr.take 20),[]),[]),K),M),⟨⟨hx,hy,hr,hf,hs⟩,And.intro (prg_fit p (Nat.le_refl K)) (And.intro (rl_fit _ (Nat.le_refl K)) (And.intro (rl_fit _ (Nat.le_refl K)) (And.intro (rl_fit _ (Nat.le_refl K)) (And.intro (rat_fit v (Nat.le_refl K)) (And.intro (And.intro rfl (And.intro (And.intro rfl (Nat.le_refl K)) (And.intro (rl_fit _ (Nat.le_refl K)) (And.intro (rl_fit _ (Nat.le_refl K)) (And.intro (rl_fit _ (Nat.le_refl K)) (And.intro rfl (And.intro rfl True.intro))))))) True.intro)))))⟩,?_⟩
   (repeat((conv=>whnf);refine aig ?_))<;>try(conv=>whnf)
   refine And.intro ⟨rfl,Int.natCast_nonneg _,t4,hm,fun _ _=>rfl,rfl⟩ ?_
   (repeat((conv=>whnf);refine aig ?_))<;>try(conv=>whnf)
   refine ⟨(((((((((((((q,((List.range q.cols.length).map (tRsV G m 0))),((List.range q.rows.length).map (tRsV G m (tRsI m 0 q.cols.length)))),((List.range q.cols.length).map (tRsV G m (tRsI m (tRsI m 0 q.cols.length) q.rows.length)))),tRatV G m (tRatI m (tNi m (tRsI m (tRsI m (tRsI m 0 q.cols.length) q.rows.length) q.cols.length)))),tNv G m (tRsI m (tRsI m (tRsI m 0 q.cols.length) q.rows.length) q.cols.length) 4),mkRat 0 0),[]),((List.range q.rows.length).map (tRsV G m (tRsI m 0 q.cols.length)))),[]),[]),[]),5),651),⟨⟨pA,yB,pC,fB,⟨p0,p0,yB,fB,by decide⟩⟩,And.intro fq (And.intro (made_fit _ _ (Nat.le_refl 5)) (And.intro (made_fit _ _ (Nat.le_refl 5)) (And.intro (made_fit _ _ (Nat.le_refl 5)) (And.intro (one_fit _ (Nat.le_refl 5)) (And.intro (And.intro rfl (And.intro (And.intro rfl (by decide)) (And.intro (rfl) (And.intro (made_fit _ _ (Nat.le_refl 5)) (And.intro (rfl) (And.intro rfl (And.intro rfl True.intro))))))) True.intro)))))⟩,?_⟩
   (repeat((conv=>whnf);refine aig ?_))<;>try(conv=>whnf)
 ·(repeat((conv=>whnf);refine aig ?_))<;>try(conv=>whnf)
  refine And.intro (fun z2=>?_) (fun z2=>?_)
  ·(repeat((conv=>whnf);refine aig ?_))<;>try(conv=>whnf)
   refine ⟨(p,K),⟨hb0,And.intro (prg_fit p (Nat.le_refl K)) True.intro⟩,?_⟩
   (repeat((conv=>whnf);refine aig ?_))<;>try(conv=>whnf)
   refine And.intro (fun _=>?_) (fun _=>?_)
   ·(repeat((conv=>whnf);refine aig ?_))<;>try(conv=>whnf)
    refine And.intro ⟨rfl,Int.natCast_nonneg _,t4,hm,fun _ _=>rfl,rfl⟩ ?_
    (repeat((conv=>whnf);refine aig ?_))<;>try(conv=>whnf)
    refine ⟨(((((((((((((q,((List.range q.cols.length).map (tRsV G m 0))),((List.range q.rows.length).map (tRsV G m (tRsI m 0 q.cols.length)))),((List.range q.cols.length).map (tRsV G m (tRsI m (tRsI m 0 q.cols.length) q.rows.length)))),tRatV G m (tRatI m (tNi m (tRsI m (tRsI m (tRsI m 0 q.cols.length) q.rows.length) q.cols.length)))),tNv G m (tRsI m (tRsI m (tRsI m 0 q.cols.length) q.rows.length) q.cols.length) 4),mkRat 0 0),((List.range q.cols.length).map (tRsV G m 0))),[]),((List.range q.cols.length).map (tRsV G m (tRsI m (tRsI m 0 q.cols.length) q.rows.length)))),[]),[]),5),651),⟨⟨pA,yB,pC,fB,⟨pA,pC,y0,f0,by decide⟩⟩,And.intro fq (And.intro (made_fit _ _ (Nat.le_refl 5)) (And.intro (made_fit _ _ (Nat.le_refl 5)) (And.intro (made_fit _ _ (Nat.le_refl 5)) (And.intro (one_fit _ (Nat.le_refl 5)) (And.intro (And.intro rfl (And.intro (And.intro rfl (by decide)) (And.intro (made_fit _ _ (Nat.le_refl 5)) (And.intro (rfl) (And.intro (made_fit _ _ (Nat.le_refl 5)) (And.intro rfl (And.intro rfl True.intro))))))) True.intro)))))⟩,?_⟩
    (repeat((conv=>whnf);refine aig ?_))<;>try(conv=>whnf)
   ·(repeat((conv=>whnf);refine aig ?_))<;>try(conv=>whnf)
    refine ⟨(((((((((((((p,x.take 20),y.take 20),r.take 20),v),s),sv),sx.take 20),sy.take 20),sr.take 20),[]),[]),K),M),⟨⟨hx,hy,hr,hf,hs⟩,And.intro (prg_fit p (Nat.le_refl K)) (And.intro (rl_fit _ (Nat.le_refl K)) (And.intro (rl_fit _ (Nat.le_refl K)) (And.intro (rl_fit _ (Nat.le_refl K)) (And.intro (rat_fit v (Nat.le_refl K)) (And.intro (And.intro rfl (And.intro (And.intro rfl (Nat.le_refl K)) (And.intro (rl_fit _ (Nat.le_refl K)) (And.intro (rl_fit _ (Nat.le_refl K)) (And.intro (rl_fit _ (Nat.le_refl K)) (And.intro rfl (And.intro rfl True.intro))))))) True.intro)))))⟩,?_⟩
    (repeat((conv=>whnf);refine aig ?_))<;>try(conv=>whnf)
    refine And.intro ⟨rfl,Int.natCast_nonneg _,t4,hm,fun _ _=>rfl,rfl⟩ ?_
    (repeat((conv=>whnf);refine aig ?_))<;>try(conv=>whnf)
    refine ⟨(((((((((((((q,((List.range q.cols.length).map (tRsV G m 0))),((List.range q.rows.length).map (tRsV G m (tRsI m 0 q.cols.length)))),((List.range q.cols.length).map (tRsV G m (tRsI m (tRsI m 0 q.cols.length) q.rows.length)))),tRatV G m (tRatI m (tNi m (tRsI m (tRsI m (tRsI m 0 q.cols.length) q.rows.length) q.cols.length)))),tNv G m (tRsI m (tRsI m (tRsI m 0 q.cols.length) q.rows.length) q.cols.length) 4),mkRat 0 0),((List.range q.cols.length).map (tRsV G m 0))),[]),((List.range q.cols.length).map (tRsV G m (tRsI m (tRsI m 0 q.cols.length) q.rows.length)))),[]),[]),5),651),⟨⟨pA,yB,pC,fB,⟨pA,pC,y0,f0,by decide⟩⟩,And.intro fq (And.intro (made_fit _ _ (Nat.le_refl 5)) (And.intro (made_fit _ _ (Nat.le_refl 5)) (And.intro (made_fit _ _ (Nat.le_refl 5)) (And.intro (one_fit _ (Nat.le_refl 5)) (And.intro (And.intro rfl (And.intro (And.intro rfl (by decide)) (And.intro (made_fit _ _ (Nat.le_refl 5)) (And.intro (rfl) (And.intro (made_fit _ _ (Nat.le_refl 5)) (And.intro rfl (And.intro rfl True.intro))))))) True.intro)))))⟩,?_⟩
    (repeat((conv=>whnf);refine aig ?_))<;>try(conv=>whnf)
  ·(repeat((conv=>whnf);refine aig ?_))<;>try(conv=>whnf)
   refine ⟨(p,K),⟨hb0,And.intro (prg_fit p (Nat.le_refl K)) True.intro⟩,?_⟩
   (repeat((conv=>whnf);refine aig ?_))<;>try(conv=>whnf)
   refine And.intro (fun _=>?_) (fun _=>?_)
   ·(repeat((conv=>whnf);refine aig ?_))<;>try(conv=>whnf)
    refine And.intro ⟨rfl,Int.natCast_nonneg _,t4,hm,fun _ _=>rfl,rfl⟩ ?_
    (repeat((conv=>whnf);refine aig ?_))<;>try(conv=>whnf)
    refine ⟨(((((((((((((q,((List.range q.cols.length).map (tRsV G m 0))),((List.range q.rows.length).map (tRsV G m (tRsI m 0 q.cols.length)))),((List.range q.cols.length).map (tRsV G m (tRsI m (tRsI m 0 q.cols.length) q.rows.length)))),tRatV G m (tRatI m (tNi m (tRsI m (tRsI m (tRsI m 0 q.cols.length) q.rows.length) q.cols.length)))),tNv G m (tRsI m (tRsI m (tRsI m 0 q.cols.length) q.rows.length) q.cols.length) 4),tRatV G m (tNi m (tRsI m (tRsI m (tRsI m 0 q.cols.length) q.rows.length) q.cols.length))),((List.range q.cols.length).map (tRsV G m 0))),((List.range q.rows.length).map (tRsV G m (tRsI m 0 q.cols.length)))),[]),[]),[]),5),651),⟨⟨pA,yB,pC,fB,⟨pA,p0,yB,fB,by decide⟩⟩,And.intro fq (And.intro (made_fit _ _ (Nat.le_refl 5)) (And.intro (made_fit _ _ (Nat.le_refl 5)) (And.intro (made_fit _ _ (Nat.le_refl 5)) (And.intro (one_fit _ (Nat.le_refl 5)) (And.intro (And.intro rfl (And.intro (And.intro rfl (.inl (Nat.le_refl 5))) (And.intro (made_fit _ _ (Nat.le_refl 5)) (And.intro (made_fit _ _ (Nat.le_refl 5)) (And.intro (rfl) (And.intro rfl (And.intro rfl True.intro))))))) True.intro)))))⟩,?_⟩
    (repeat((conv=>whnf);refine aig ?_))<;>try(conv=>whnf)
   ·(repeat((conv=>whnf);refine aig ?_))<;>try(conv=>whnf)
    refine ⟨(((((((((((((p,x.take 20),y.take 20),r.take 20),v),s),sv),sx.take 20),sy.take 20),sr.take 20),[]),[]),K),M),⟨⟨hx,hy,hr,hf,hs⟩,And.intro (prg_fit p (Nat.le_refl K)) (And.intro (rl_fit _ (Nat.le_refl K)) (And.intro (rl_fit _ (Nat.le_refl K)) (And.intro (rl_fit _ (Nat.le_refl K)) (And.intro (rat_fit v (Nat.le_refl K)) (And.intro (And.intro rfl (And.intro (And.intro rfl (Nat.le_refl K)) (And.intro (rl_fit _ (Nat.le_refl K)) (And.intro (rl_fit _ (Nat.le_refl K)) (And.intro (rl_fit _ (Nat.le_refl K)) (And.intro rfl (And.intro rfl True.intro))))))) True.intro)))))⟩,?_⟩
    (repeat((conv=>whnf);refine aig ?_))<;>try(conv=>whnf)
    refine And.intro ⟨rfl,Int.natCast_nonneg _,t4,hm,fun _ _=>rfl,rfl⟩ ?_
    (repeat((conv=>whnf);refine aig ?_))<;>try(conv=>whnf)
    refine ⟨(((((((((((((q,((List.range q.cols.length).map (tRsV G m 0))),((List.range q.rows.length).map (tRsV G m (tRsI m 0 q.cols.length)))),((List.range q.cols.length).map (tRsV G m (tRsI m (tRsI m 0 q.cols.length) q.rows.length)))),tRatV G m (tRatI m (tNi m (tRsI m (tRsI m (tRsI m 0 q.cols.length) q.rows.length) q.cols.length)))),tNv G m (tRsI m (tRsI m (tRsI m 0 q.cols.length) q.rows.length) q.cols.length) 4),tRatV G m (tNi m (tRsI m (tRsI m (tRsI m 0 q.cols.length) q.rows.length) q.cols.length))),((List.range q.cols.length).map (tRsV G m 0))),((List.range q.rows.length).map (tRsV G m (tRsI m 0 q.cols.length)))),[]),[]),[]),5),651),⟨⟨pA,yB,pC,fB,⟨pA,p0,yB,fB,by decide⟩⟩,And.intro fq (And.intro (made_fit _ _ (Nat.le_refl 5)) (And.intro (made_fit _ _ (Nat.le_refl 5)) (And.intro (made_fit _ _ (Nat.le_refl 5)) (And.intro (one_fit _ (Nat.le_refl 5)) (And.intro (And.intro rfl (And.intro (And.intro rfl (.inl (Nat.le_refl 5))) (And.intro (made_fit _ _ (Nat.le_refl 5)) (And.intro (made_fit _ _ (Nat.le_refl 5)) (And.intro (rfl) (And.intro rfl (And.intro rfl True.intro))))))) True.intro)))))⟩,?_⟩
    (repeat((conv=>whnf);refine aig ?_))<;>try(conv=>whnf)
theorem xact12_walk {W:World} {v0 v1 v2 v3 v4 v5 v6 v7:Value} {p:Prg} {x:List Rat} {y:List Rat} {r:List Rat} {v:Rat} {d:SolD} {ch:List Int} {nu:List Int} (h0:Rob (fun _=>False) W (prgAv p 1048576) [v0]) (h1:Rob (fun _=>False) W (rlAv x 1048576) [v1]) (h2:Rob (fun _=>False) W (rlAv y 1048576) [v2]) (h3:Rob (fun _=>False) W (rlAv r 1048576) [v3]) (h4:Rob (fun _=>False) W (rAv v 1048576) [v4]) (h5:Rob (fun _=>False) W (.agg (d.av 1048576)) [v5]) (h6:Rob (fun _=>False) W (ilAv ch) [v6]) (h7:Rob (fun _=>False) W (ilAv nu) [v7]) {n0 n1 n2 n3 m1 m2 m3:Nat} (w0:Wt (prgN p) n0) (w1:Wt x n1) (w2:Wt y n2) (w3:Wt r n3) (s1:Wt d.x m1) (s2:Wt d.y m2) (s3:Wt d.r m3) (b0:PB p 1048576) (hn:n0 + n1 + n2 + n3 + m1 + m2 + m3≤1048576) (l6:ch.length≤1048576) (l7:nu.length≤1048576) :
  Calls Tryz.prog 14 #[v0,v1,v2,v3,v4,v5,v6,v7] W (RetB W true):=
 call_b (fn_ok (own:=fun _=>False) (ctx_ok TT_ok [first_s,gprg_s,tnew_s,trats_s,next_s,trat_s,aw12_s,sml_s,agr_s]) mixed_ok (fn:=Tryz.f14) (by kernel_rfl) (xact12_x p x y r v d.s d.v d.x d.y d.r d.b d.c 1048576 (6 * 1048576 + 3) b0 (px_of b0 ((w0.app (wt_take w1 20)).mono (by omega)) (by decide)) (py_of b0 ((w0.app (wt_take w2 20)).mono (by omega)) (by decide)) (px_of b0 ((w0.app (wt_take w3 20)).mono (by omega)) (by decide)) (py_of (pb_free b0) (((wt_free w0).app (wt_take w2 20)).mono (by omega)) (by decide)) ⟨(px_of b0 ((w0.app (wt_take s1 20)).mono (by omega)) (by decide)),(px_of b0 ((w0.app (wt_take s3 20)).mono (by omega)) (by decide)),(py_of b0 ((w0.app (wt_take s2 20)).mono (by omega)) (by decide)),(py_of (pb_free b0) (((wt_free w0).app (wt_take s2 20)).mono (by omega)) (by decide)),by decide⟩ (fun k=>ch.getD k 0) (fun k=>nu.getD k 0) ch.length nu.length l6 l7) (fun _ h=>h.elim) (.cons h0 (.cons h1 (.cons h2 (.cons h3 (.cons h4 (.cons h5 (.cons h6 (.cons h7 .nil)))))))))
end Go.Proofs.YtfgkecffpkdjcaaGreat
