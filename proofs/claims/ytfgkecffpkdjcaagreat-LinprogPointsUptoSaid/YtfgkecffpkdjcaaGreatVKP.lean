/- LinprogPoints by the executor. -/
import Derived.Test.YtfgkecffpkdjcaaGreatVKW
import Derived.Test.YtfgkecffpkdjcaaGreatVM
namespace Go.Proofs.YtfgkecffpkdjcaaGreat
open Go.RowKit Gm Go.Vx
set_option maxRecDepth 100000
theorem nl_fit (l:List Nat):fitC (nlAv l) (.cons (nlAv l) .nil):=And.intro rfl (And.intro rfl fun _ _=>And.intro rfl True.intro)
set_option smartUnfolding false in
theorem eqn_x (a b:List Nat) (hl:a.length≤1048576):fnOk ⟨TT,specsOf ([]:List (PSpec Tryz.prog))⟩ Tryz.f92 [nlAv a,nlAv b] (.val (.bool (pb (a = b)))):=by
 (repeat((conv=>whnf);refine aig ?_))<;>try(conv=>whnf)
 refine And.intro (fun h1=>?_) (fun h1=>?_)
 ·(repeat((conv=>whnf);refine aig ?_))<;>try(conv=>whnf)
  exact congrArg Value.bool (pb_f.2 fun h=>by rw [bne_iff_ne] at h1;exact h1 (by rw [h])).symm
 have hab:a.length = b.length:=by have:=bne_eq_false_iff_eq.1 h1;exact Int.ofNat.inj this
 (repeat((conv=>whnf);refine aig ?_))<;>try(conv=>whnf)
 refine ⟨⟨Nat,fun k=>k≤a.length∧∀ i,i < k→a.getD i 0 = b.getD i 0,fun k=>[.slot 5 (.val (.int .i64 (k:Int)))],fun k=>a.length - k,0⟩,0,⟨Nat.zero_le _,fun i hi=>by omega⟩,?_⟩
 conv=>whnf
 refine And.intro ?_ ?_
 ·all_goals(repeat' first|exact ayg|apply And.intro|exact azg|fail)
 conv=>whnf
 rintro k ⟨h3,h4⟩
 (repeat((conv=>whnf);refine aig ?_))<;>try(conv=>whnf)
 refine And.intro (fun h5=>?_) (fun h5=>?_)
 ·have h6:(k:Int) < a.length:=of_decide_eq_true h5
  have w1:IntKind.i64.wrap ((k:Int) + 1) = (k:Int) + 1:=w64 (by omega) (by omega)
  (repeat((conv=>whnf);refine aig ?_))<;>try(conv=>whnf)
  refine And.intro (fun h7=>?_) (fun h7=>?_)
  ·(repeat((conv=>whnf);refine aig ?_))<;>try(conv=>whnf)
   exact congrArg Value.bool (pb_f.2 fun h=>by rw [bne_iff_ne] at h7;exact h7 (by rw [h])).symm
  have h8:a.getD k 0 = b.getD k 0:=by have:=bne_eq_false_iff_eq.1 h7;exact Int.ofNat.inj this
  (repeat((conv=>whnf);refine aig ?_))<;>try(conv=>whnf)
  refine ⟨k + 1,⟨by omega,fun i hi=>?_⟩,(show a.length - (k + 1) < a.length - k by omega),?_⟩
  ·rcases Nat.lt_or_ge i k with hik | hik
   ·exact h4 i hik
   ·rw [show i = k by omega];exact h8
  conv=>whnf
  all_goals(repeat' first|exact ayg|apply And.intro|exact azg|fail)
 ·have h6:¬ (k:Int) < a.length:=of_decide_eq_false h5
  obtain rfl:k = a.length:=by omega
  (repeat((conv=>whnf);refine aig ?_))<;>try(conv=>whnf)
  refine congrArg Value.bool (pb_t.2 (List.ext_getElem hab fun i hi hi2=>?_)).symm
  have:=h4 i hi
  simpa [List.getD_eq_getElem?_getD,hi,hi2] using this
noncomputable def eqn_s:PSpec Tryz.prog:=⟨92,ghSpec (List Nat × List Nat) (fun | (c0,c1)=>[nlAv c0,nlAv c1]) (fun | (c0,_)=>c0.length≤1048576) (fun | (c0,c1)=>.val (.bool (pb (c0 = c1)))),ghSpec_ok (fn:=Tryz.f92) (ctx_ok TT_ok ([]:List (PSpec Tryz.prog))) mixed_ok (by kernel_rfl) (fun | (c0,c1),hp=>eqn_x c0 c1 hp),by kernel_rfl⟩
set_option maxHeartbeats 4000000 in
set_option smartUnfolding false in
theorem pts11_x (p:Prg) (x:List Rat) (K M:Nat) (hx:PX p x K M):fnOk ⟨TT,specsOf [wvalid_s,lobj_s,lacts_s,lvio_s,lfea_s,wfea_s,lval_s,wact_s,wvio_s,wobj_s,rREq_s,rSame_s,eqn_s]⟩ Tryz.f37 [prgAv p K,rlAv x K] (.kb true):=by
 have b5:=hx.hM
 have b1:=hx.b.r
 have b0:=hx.b.c
 (repeat((conv=>whnf);refine aig ?_))<;>try(conv=>whnf)
 refine ⟨(p,K),⟨hx.b,And.intro (prg_fit p (Nat.le_refl K)) True.intro⟩,?_⟩
 (repeat((conv=>whnf);refine aig ?_))<;>try(conv=>whnf)
 refine And.intro (fun h1=>?_) (fun h1=>?_)
 ·have hv:errV p = 0:=by simpa using h1
  (repeat((conv=>whnf);refine aig ?_))<;>try(conv=>whnf)
  refine And.intro (fun h2=>?_) (fun h2=>?_)
  ·have ec:errC p x.length p.cols.length = 4:=ec_sh hv h2
   have hne:errC p x.length p.cols.length≠0:=by rw [ec];decide
   (repeat((conv=>whnf);refine aig ?_))<;>try(conv=>whnf)
   refine ⟨((((p,x),K),M),false),⟨⟨hx,by simpa using hne⟩,And.intro (prg_fit p (Nat.le_refl K)) (And.intro (rl_fit x (Nat.le_refl K)) True.intro)⟩,?_⟩
   (repeat((conv=>whnf);refine aig ?_))<;>try(conv=>whnf)
   refine ⟨((((p,x),K),M),false),⟨⟨hx,by simpa using hne⟩,And.intro (prg_fit p (Nat.le_refl K)) (And.intro (rl_fit x (Nat.le_refl K)) True.intro)⟩,?_⟩
   (repeat((conv=>whnf);refine aig ?_))<;>try(conv=>whnf)
   refine ⟨((((p,x),K),M),false),⟨⟨hx,by simpa using hne⟩,And.intro (prg_fit p (Nat.le_refl K)) (And.intro (rl_fit x (Nat.le_refl K)) True.intro)⟩,?_⟩
   (repeat((conv=>whnf);refine aig ?_))<;>try(conv=>whnf)
   (repeat' (first | (refine And.intro (fun h=>?_) (fun _=>?_);focus (exfalso;revert h;first | decide | (simp;done) | (simp [ec];done))) | (refine And.intro (fun _=>?_) (fun h=>?_);rotate_left;focus (exfalso;revert h;first | decide | (simp;done) | (simp [ec];done))) | ((conv=>whnf);refine aig ?_)))<;>try (conv=>whnf)
   refine ⟨(((p,x),K),M),⟨hx,And.intro (prg_fit p (Nat.le_refl K)) (And.intro (rl_fit x (Nat.le_refl K)) True.intro)⟩,?_⟩
   (repeat((conv=>whnf);refine aig ?_))<;>try(conv=>whnf)
   refine ⟨(((p,x),K),M),⟨hx,And.intro (prg_fit p (Nat.le_refl K)) (And.intro (rl_fit x (Nat.le_refl K)) True.intro)⟩,?_⟩
   (repeat' (first | (refine And.intro (fun h=>?_) (fun _=>?_);focus (exfalso;revert h;first | decide | (simp;done))) | (refine And.intro (fun _=>?_) (fun h=>?_);rotate_left;focus (exfalso;revert h;first | decide | (simp;done))) | ((conv=>whnf);refine aig ?_)))<;>try (conv=>whnf)
   refine ⟨(p,K),⟨hx.b,And.intro (prg_fit p (Nat.le_refl K)) True.intro⟩,?_⟩
   (repeat((conv=>whnf);refine aig ?_))<;>try(conv=>whnf)
   refine ⟨(p,K),⟨hx.b,And.intro (prg_fit p (Nat.le_refl K)) True.intro⟩,?_⟩
   (repeat' (first | (refine And.intro (fun h=>?_) (fun _=>?_);focus (exfalso;revert h;first | decide | (simp;done))) | (refine And.intro (fun _=>?_) (fun h=>?_);rotate_left;focus (exfalso;revert h;first | decide | (simp;done))) | ((conv=>whnf);refine aig ?_)))<;>try (conv=>whnf)
   exact rfl
  ·have he:errC p x.length p.cols.length = 0:=ec_ok hv h2
   have hvl:=(errC_zero.1 he).1
   have hlen:=(errC_zero.1 he).2
   (repeat((conv=>whnf);refine aig ?_))<;>try(conv=>whnf)
   refine ⟨((((p,x),K),M),true),⟨⟨hx,⟨fun _=>he,fun _=>rfl⟩⟩,And.intro (prg_fit p (Nat.le_refl K)) (And.intro (rl_fit x (Nat.le_refl K)) True.intro)⟩,?_⟩
   (repeat((conv=>whnf);refine aig ?_))<;>try(conv=>whnf)
   refine ⟨((((p,x),K),M),true),⟨⟨hx,⟨fun _=>he,fun _=>rfl⟩⟩,And.intro (prg_fit p (Nat.le_refl K)) (And.intro (rl_fit x (Nat.le_refl K)) True.intro)⟩,?_⟩
   (repeat((conv=>whnf);refine aig ?_))<;>try(conv=>whnf)
   refine ⟨((((p,x),K),M),true),⟨⟨hx,⟨fun _=>he,fun _=>rfl⟩⟩,And.intro (prg_fit p (Nat.le_refl K)) (And.intro (rl_fit x (Nat.le_refl K)) True.intro)⟩,?_⟩
   (repeat((conv=>whnf);refine aig ?_))<;>try(conv=>whnf)
   (repeat' (first | (refine And.intro (fun h=>?_) (fun _=>?_);focus (exfalso;revert h;first | decide | (simp;done) | (simp [hv];done))) | (refine And.intro (fun _=>?_) (fun h=>?_);rotate_left;focus (exfalso;revert h;first | decide | (simp;done) | (simp [hv];done))) | ((conv=>whnf);refine aig ?_)))<;>try (conv=>whnf)
   refine ⟨(((p,x),K),M),⟨hx,And.intro (prg_fit p (Nat.le_refl K)) (And.intro (rl_fit x (Nat.le_refl K)) True.intro)⟩,?_⟩
   (repeat((conv=>whnf);refine aig ?_))<;>try(conv=>whnf)
   refine ⟨(((p,x),K),M),⟨hx,And.intro (prg_fit p (Nat.le_refl K)) (And.intro (rl_fit x (Nat.le_refl K)) True.intro)⟩,?_⟩
   (repeat' (first | (refine And.intro (fun h=>?_) (fun _=>?_);focus (exfalso;revert h;first | decide | (simp;done))) | (refine And.intro (fun _=>?_) (fun h=>?_);rotate_left;focus (exfalso;revert h;first | decide | (simp;done))) | ((conv=>whnf);refine aig ?_)))<;>try (conv=>whnf)
   refine ⟨(p,K),⟨hx.b,And.intro (prg_fit p (Nat.le_refl K)) True.intro⟩,?_⟩
   (repeat((conv=>whnf);refine aig ?_))<;>try(conv=>whnf)
   refine ⟨(p,K),⟨hx.b,And.intro (prg_fit p (Nat.le_refl K)) True.intro⟩,?_⟩
   (repeat' (first | (refine And.intro (fun h=>?_) (fun _=>?_);focus (exfalso;revert h;first | decide | (simp;done) | (simp [hv];done))) | (refine And.intro (fun _=>?_) (fun h=>?_);rotate_left;focus (exfalso;revert h;first | decide | (simp;done) | (simp [hv];done))) | ((conv=>whnf);refine aig ?_)))<;>try (conv=>whnf)
   refine ⟨⟨Nat,fun j=>j≤p.rows.length,fun j=>[.slot 14 (.val (.int .i64 (j:Int))),.own 13 36 3 j (madeC (fun i=>act (p.row i) x) M),.slot 13 (.row 13)],fun j=>p.rows.length - j,0⟩,0,Nat.zero_le _,?_⟩
   conv=>whnf
   refine And.intro ?_ ?_
   ·all_goals(repeat' first|exact ayg|apply And.intro|exact azg|fail)
   conv=>whnf
   rintro j h3
   (repeat((conv=>whnf);refine aig ?_))<;>try(conv=>whnf)
   refine And.intro (fun h5=>?_) (fun h5=>?_)
   ·have h6:(j:Int) < p.rows.length:=of_decide_eq_true h5
    have w1:IntKind.i64.wrap ((j:Int) + 1) = (j:Int) + 1:=w64 (by omega) (by omega)
    (repeat((conv=>whnf);refine aig ?_))<;>try(conv=>whnf)
    refine ⟨(((p.row j,x),K),M),⟨hx.ax hvl hlen (by omega),And.intro (row_fit (p.row j) (Nat.le_refl K)) (And.intro (rl_fit x (Nat.le_refl K)) True.intro)⟩,?_⟩
    (repeat((conv=>whnf);refine aig ?_))<;>try(conv=>whnf)
    refine ⟨j + 1,(show j + 1≤p.rows.length by omega),(show p.rows.length - (j + 1) < p.rows.length - j by omega),?_⟩
    conv=>whnf
    all_goals(repeat' first|exact ayg|apply And.intro|exact azg|fail)
    exact made_app (f:=fun i=>act (p.row i) x) rfl (.inl (Nat.le_refl _))
   have h6:¬ (j:Int) < p.rows.length:=of_decide_eq_false h5
   obtain rfl:j = p.rows.length:=by omega
   (repeat((conv=>whnf);refine aig ?_))<;>try(conv=>whnf)
   refine ⟨(((p,x),K),M),⟨⟨hx,hvl,hlen⟩,And.intro (prg_fit p (Nat.le_refl K)) (And.intro (rl_fit x (Nat.le_refl K)) True.intro)⟩,?_⟩
   (repeat((conv=>whnf);refine aig ?_))<;>try(conv=>whnf)
   refine ⟨(((p,x),K),M),⟨⟨hx,hlen⟩,And.intro (prg_fit p (Nat.le_refl K)) (And.intro (rl_fit x (Nat.le_refl K)) True.intro)⟩,?_⟩
   (repeat' (first | (refine And.intro (fun h=>?_) (fun _=>?_);focus (exfalso;revert h;first | decide | (simp;done))) | (refine And.intro (fun _=>?_) (fun h=>?_);rotate_left;focus (exfalso;revert h;first | decide | (simp;done))) | ((conv=>whnf);refine aig ?_)))<;>try (conv=>whnf)
   refine ⟨((((((fun i=>act (p.row i) x),p.rows.length),M),(fun i=>act (p.row i) x)),p.rows.length),M),⟨⟨b1,by omega,by omega⟩,And.intro (And.intro rfl (And.intro rfl (made_refl _ _ _))) (And.intro (And.intro rfl (And.intro rfl (made_refl _ _ _))) True.intro)⟩,?_⟩
   (repeat((conv=>whnf);refine aig ?_))<;>try(conv=>whnf)
   refine And.intro (fun _=>?_) (fun h=>absurd (show SameL _ _ _ _ from ⟨rfl,fun _ _=>rfl⟩) (pb_f.1 h))
   (repeat((conv=>whnf);refine aig ?_))<;>try(conv=>whnf)
   refine ⟨(vcols p x p.cols.length,vcols p x p.cols.length),⟨Nat.le_trans (idxs_len _ _) b0,And.intro (nl_fit _) (And.intro (nl_fit _) True.intro)⟩,?_⟩
   (repeat((conv=>whnf);refine aig ?_))<;>try(conv=>whnf)
   refine And.intro (fun _=>?_) (fun h=>absurd rfl (pb_f.1 h))
   (repeat((conv=>whnf);refine aig ?_))<;>try(conv=>whnf)
   refine ⟨(vrows p x p.rows.length,vrows p x p.rows.length),⟨Nat.le_trans (idxs_len _ _) b1,And.intro (nl_fit _) (And.intro (nl_fit _) True.intro)⟩,?_⟩
   (repeat((conv=>whnf);refine aig ?_))<;>try(conv=>whnf)
   exact pb_t.2 rfl
 ·have hv:¬ errV p = 0:=by simpa using h1
  have ec:errC p x.length p.cols.length = errV p:=ec_err (by simpa using hv)
  have hne:errC p x.length p.cols.length≠0:=by rw [ec];exact hv
  (repeat((conv=>whnf);refine aig ?_))<;>try(conv=>whnf)
  refine ⟨((((p,x),K),M),false),⟨⟨hx,by simpa using hne⟩,And.intro (prg_fit p (Nat.le_refl K)) (And.intro (rl_fit x (Nat.le_refl K)) True.intro)⟩,?_⟩
  (repeat((conv=>whnf);refine aig ?_))<;>try(conv=>whnf)
  refine ⟨((((p,x),K),M),false),⟨⟨hx,by simpa using hne⟩,And.intro (prg_fit p (Nat.le_refl K)) (And.intro (rl_fit x (Nat.le_refl K)) True.intro)⟩,?_⟩
  (repeat((conv=>whnf);refine aig ?_))<;>try(conv=>whnf)
  refine ⟨((((p,x),K),M),false),⟨⟨hx,by simpa using hne⟩,And.intro (prg_fit p (Nat.le_refl K)) (And.intro (rl_fit x (Nat.le_refl K)) True.intro)⟩,?_⟩
  (repeat((conv=>whnf);refine aig ?_))<;>try(conv=>whnf)
  (repeat' (first | (refine And.intro (fun h=>?_) (fun _=>?_);focus (exfalso;revert h;first | decide | (simp;done) | (simp [ec];done))) | (refine And.intro (fun _=>?_) (fun h=>?_);rotate_left;focus (exfalso;revert h;first | decide | (simp;done) | (simp [ec];done))) | ((conv=>whnf);refine aig ?_)))<;>try (conv=>whnf)
  refine ⟨(((p,x),K),M),⟨hx,And.intro (prg_fit p (Nat.le_refl K)) (And.intro (rl_fit x (Nat.le_refl K)) True.intro)⟩,?_⟩
  (repeat((conv=>whnf);refine aig ?_))<;>try(conv=>whnf)
  refine ⟨(((p,x),K),M),⟨hx,And.intro (prg_fit p (Nat.le_refl K)) (And.intro (rl_fit x (Nat.le_refl K)) True.intro)⟩,?_⟩
  (repeat' (first | (refine And.intro (fun h=>?_) (fun _=>?_);focus (exfalso;revert h;first | decide | (simp;done))) | (refine And.intro (fun _=>?_) (fun h=>?_);rotate_left;focus (exfalso;revert h;first | decide | (simp;done))) | ((conv=>whnf);refine aig ?_)))<;>try (conv=>whnf)
  refine ⟨(p,K),⟨hx.b,And.intro (prg_fit p (Nat.le_refl K)) True.intro⟩,?_⟩
  (repeat((conv=>whnf);refine aig ?_))<;>try(conv=>whnf)
  refine ⟨(p,K),⟨hx.b,And.intro (prg_fit p (Nat.le_refl K)) True.intro⟩,?_⟩
  (repeat' (first | (refine And.intro (fun h=>?_) (fun _=>?_);focus (exfalso;revert h;first | decide | (simp;done) | (simp [hv];done))) | (refine And.intro (fun _=>?_) (fun h=>?_);rotate_left;focus (exfalso;revert h;first | decide | (simp;done) | (simp [hv];done))) | ((conv=>whnf);refine aig ?_)))<;>try (conv=>whnf)
  exact rfl
noncomputable def pts11_s:PSpec Tryz.prog:=⟨37,ghSpec (((Prg × List Rat) × Nat) × Nat) (fun | (((c0,c1),c2),_)=>[prgAv c0 c2,rlAv c1 c2]) (fun | (((c0,c1),c2),c3)=>PX c0 c1 c2 c3) (fun | (((_,_),_),_)=>.kb true),ghSpec_ok (fn:=Tryz.f37) (ctx_ok TT_ok [wvalid_s,lobj_s,lacts_s,lvio_s,lfea_s,wfea_s,lval_s,wact_s,wvio_s,wobj_s,rREq_s,rSame_s,eqn_s]) mixed_ok (by kernel_rfl) (fun | (((c0,c1),c2),c3),hp=>pts11_x c0 c1 c2 c3 hp),by kernel_rfl⟩
set_option maxHeartbeats 2000000 in
set_option smartUnfolding false in
theorem po11_x (p:Prg) (x:List Rat) (K M:Nat) (hb0:PB p K) (hx0:PX p (x.take 20) K M) (F G:Nat→Int) (n m:Nat) (hn:n≤1048576) (hm:m≤1048576):fnOk ⟨TT,specsOf [gprg_s,tnew_s,trats_s,aw11_s,sml11_s,first_s,pts11_s,next_s]⟩ Tryz.f6 [prgAv p K,rlAv x K,tA F n,tA G m] (.val (.bool true)):=by
 obtain ⟨q,hq⟩:∃ q,q = gPrg F n 0 4 4:=⟨_,rfl⟩
 have q1:=hq ▸ gp_bd F n
 have hb:PB q 5:=hq ▸ pb_prg4 F n 0 (by decide)
 have hw:Wt (prgN q) 100:=hq ▸ wt_prg4 F n 0
 have ht:=tRsI_le (n:=m) (Nat.zero_le m) q.cols.length
 have hv5:=tNv_bd G m (tRsI m 0 q.cols.length) (m:=5) (by decide)
 have hr:(tNv G m (tRsI m 0 q.cols.length) 5).toNat≤4:=by omega
 have hz1:Wt (prgN q ++ (List.range q.cols.length).map (tRsV G m 0)) 108:=(hw.app (wt_fun q.cols.length (sz_trs G m 0))).mono (by omega)
 have hz3:Wt (prgN q ++ (List.range (tNv G m (tRsI m 0 q.cols.length) 5).toNat).map (tRsV G m (tNi m (tRsI m 0 q.cols.length)))) 108:=(hw.app (wt_fun (tNv G m (tRsI m 0 q.cols.length) 5).toNat (sz_trs G m (tNi m (tRsI m 0 q.cols.length))))).mono (by omega)
 have p1:PX q ((List.range q.cols.length).map (tRsV G m 0)) 5 651:=px_of hb hz1 (by decide)
 have p3:PX q ((List.range (tNv G m (tRsI m 0 q.cols.length) 5).toNat).map (tRsV G m (tNi m (tRsI m 0 q.cols.length)))) 5 651:=px_of hb hz3 (by decide)
 have fq:fitC (prgAv q 5) (.cons (prgAv q 5) .nil):=prg_fit q (Nat.le_refl 5)
 (repeat((conv=>whnf);refine aig ?_))<;>try(conv=>whnf)
 refine ⟨((F,n),q),⟨⟨hn,hq⟩,And.intro (tA_fit F n) True.intro⟩,?_⟩
 (repeat((conv=>whnf);refine aig ?_))<;>try(conv=>whnf)
 refine And.intro ⟨rfl,hm,fun _ _=>rfl⟩ ?_
 (repeat((conv=>whnf);refine aig ?_))<;>try(conv=>whnf)
 refine ⟨(p,K),⟨hb0,And.intro (prg_fit p (Nat.le_refl K)) True.intro⟩,?_⟩
 (repeat((conv=>whnf);refine aig ?_))<;>try(conv=>whnf)
 refine And.intro (fun _=>?_) (fun _=>?_)
 ·(repeat((conv=>whnf);refine aig ?_))<;>try(conv=>whnf)
  refine And.intro ⟨rfl,Int.natCast_nonneg _,Nat.zero_le _,hm,fun _ _=>rfl,rfl,Int.natCast_nonneg _,by show (q.cols.length:Int)≤1048576;omega⟩ ?_
  (repeat((conv=>whnf);refine aig ?_))<;>try(conv=>whnf)
  refine ⟨(((q,(List.range q.cols.length).map (tRsV G m 0)),5),651),⟨p1,And.intro fq (And.intro (made_fit _ _ (Nat.le_refl 5)) True.intro)⟩,?_⟩
  (repeat((conv=>whnf);refine aig ?_))<;>try(conv=>whnf)
  refine And.intro ⟨rfl,Int.natCast_nonneg _,ht,hm,fun _ _=>rfl,rfl,by decide,by decide⟩ ?_
  (repeat((conv=>whnf);refine aig ?_))<;>try(conv=>whnf)
  refine And.intro ⟨rfl,Int.natCast_nonneg _,tNi_le ht,hm,fun _ _=>rfl,rfl,hv5.1,by show tNv G m (tRsI m 0 q.cols.length) 5≤1048576;omega⟩ ?_
  (repeat((conv=>whnf);refine aig ?_))<;>try(conv=>whnf)
  refine ⟨(((q,(List.range (tNv G m (tRsI m 0 q.cols.length) 5).toNat).map (tRsV G m (tNi m (tRsI m 0 q.cols.length)))),5),651),⟨p3,And.intro fq (And.intro (made_fit _ _ (Nat.le_refl 5)) True.intro)⟩,?_⟩
  (repeat((conv=>whnf);refine aig ?_))<;>try(conv=>whnf)
 ·(repeat((conv=>whnf);refine aig ?_))<;>try(conv=>whnf)
  refine ⟨(x,K),⟨Nat.zero_le _,And.intro (rl_fit x (Nat.le_refl K)) (And.intro rfl True.intro)⟩,?_⟩
  (repeat((conv=>whnf);refine aig ?_))<;>try(conv=>whnf)
  refine ⟨(((p,x.take 20),K),M),⟨hx0,And.intro (prg_fit p (Nat.le_refl K)) (And.intro (rl_fit _ (Nat.le_refl K)) True.intro)⟩,?_⟩
  (repeat((conv=>whnf);refine aig ?_))<;>try(conv=>whnf)
  refine And.intro ⟨rfl,Int.natCast_nonneg _,Nat.zero_le _,hm,fun _ _=>rfl,rfl,Int.natCast_nonneg _,by show (q.cols.length:Int)≤1048576;omega⟩ ?_
  (repeat((conv=>whnf);refine aig ?_))<;>try(conv=>whnf)
  refine ⟨(((q,(List.range q.cols.length).map (tRsV G m 0)),5),651),⟨p1,And.intro fq (And.intro (made_fit _ _ (Nat.le_refl 5)) True.intro)⟩,?_⟩
  (repeat((conv=>whnf);refine aig ?_))<;>try(conv=>whnf)
  refine And.intro ⟨rfl,Int.natCast_nonneg _,ht,hm,fun _ _=>rfl,rfl,by decide,by decide⟩ ?_
  (repeat((conv=>whnf);refine aig ?_))<;>try(conv=>whnf)
  refine And.intro ⟨rfl,Int.natCast_nonneg _,tNi_le ht,hm,fun _ _=>rfl,rfl,hv5.1,by show tNv G m (tRsI m 0 q.cols.length) 5≤1048576;omega⟩ ?_
  (repeat((conv=>whnf);refine aig ?_))<;>try(conv=>whnf)
  refine ⟨(((q,(List.range (tNv G m (tRsI m 0 q.cols.length) 5).toNat).map (tRsV G m (tNi m (tRsI m 0 q.cols.length)))),5),651),⟨p3,And.intro fq (And.intro (made_fit _ _ (Nat.le_refl 5)) True.intro)⟩,?_⟩
  (repeat((conv=>whnf);refine aig ?_))<;>try(conv=>whnf)
theorem po11_walk {W:World} {v0 v1 v2 v3:Value} {p:Prg} {x:List Rat} {ch:List Int} {nu:List Int} (h0:Rob (fun _=>False) W (prgAv p 1048576) [v0]) (h1:Rob (fun _=>False) W (rlAv x 1048576) [v1]) (h2:Rob (fun _=>False) W (ilAv ch) [v2]) (h3:Rob (fun _=>False) W (ilAv nu) [v3]) {n0 n1:Nat} (w0:Wt (prgN p) n0) (w1:Wt x n1) (b0:PB p 1048576) (hn:n0 + n1≤1048576) (l3:ch.length≤1048576) (l4:nu.length≤1048576) :
  Calls Tryz.prog 6 #[v0,v1,v2,v3] W (RetB W true):=
 call_b (fn_ok (own:=fun _=>False) (ctx_ok TT_ok [gprg_s,tnew_s,trats_s,aw11_s,sml11_s,first_s,pts11_s,next_s]) mixed_ok (fn:=Tryz.f6) (by kernel_rfl) (po11_x p x 1048576 (6 * 1048576 + 3) b0 (px_of b0 ((w0.app (wt_take w1 20)).mono (by omega)) (by decide)) (fun k=>ch.getD k 0) (fun k=>nu.getD k 0) ch.length nu.length l3 l4) (fun _ h=>h.elim) (.cons h0 (.cons h1 (.cons h2 (.cons h3 .nil)))))
end Go.Proofs.YtfgkecffpkdjcaaGreat
