/- LinprogWeakDuality by the executor. -/
import Derived.Test.YtfgkecffpkdjcaaGreatVKA
namespace Go.Proofs.YtfgkecffpkdjcaaGreat
open Go.RowKit Gm Go.Vx
set_option maxRecDepth 100000
open Classical in
noncomputable def sgnF (p:Prg) (f:Nat→Rat) (i:Nat):Rat:=if ((p.row i).sense = -1∧0 < f i)∨((p.row i).sense = 1∧f i < 0) then -(f i) else f i
theorem sgn_a {p:Prg} {f:Nat→Rat} {i:Nat} (h:((p.row i).sense = -1∧0 < f i)∨((p.row i).sense = 1∧f i < 0)):-(f i) = sgnF p f i:=(if_pos h).symm
theorem sgn_b {p:Prg} {f:Nat→Rat} {i:Nat} (h:¬ (((p.row i).sense = -1∧0 < f i)∨((p.row i).sense = 1∧f i < 0))):f i = sgnF p f i:=(if_neg h).symm
theorem sgn_sz {p:Prg} {f:Nat→Rat} {i k:Nat} (h:Sz (f i) k):Sz (sgnF p f i) k:=by
 unfold sgnF;split
 ·exact sz_neg1 h
 ·exact h
set_option smartUnfolding false in
theorem weak11_x (p:Prg) (x y:List Rat) (K M:Nat) (hx:PX p x K M) (hy:PY p y K M):fnOk ⟨TT,specsOf [lbnd_s,lfea_s,lobj_s,rRCmp_s]⟩ Tryz.f31 [prgAv p K,rlAv x K,rlAv y K] (.kb true):=by
 have b5:=hx.hM
 by_cases hb:BndOk p y
 ·(repeat((conv=>whnf);refine aig ?_))<;>try(conv=>whnf)
  refine ⟨((((p,y),K),M),true),⟨⟨hy,by simpa using hb⟩,And.intro (prg_fit p (Nat.le_refl K)) (And.intro (rl_fit y (Nat.le_refl K)) True.intro)⟩,?_⟩
  (repeat((conv=>whnf);refine aig ?_))<;>try(conv=>whnf)
  refine ⟨(((p,x),K),M),⟨hx,And.intro (prg_fit p (Nat.le_refl K)) (And.intro (rl_fit x (Nat.le_refl K)) True.intro)⟩,?_⟩
  (repeat((conv=>whnf);refine aig ?_))<;>try(conv=>whnf)
  refine And.intro (fun h1=>?_) (fun h1=>?_)
  ·(repeat((conv=>whnf);refine aig ?_))<;>try(conv=>whnf)
   all_goals(repeat' first|exact ayg|apply And.intro|exact azg|fail)
  have hf:Feas p x:=pbnf h1
  have he:errC p x.length p.cols.length = 0:=errC_zero.2 ⟨hf.v,hf.n⟩
  (repeat((conv=>whnf);refine aig ?_))<;>try(conv=>whnf)
  refine ⟨((((p,x),K),M),true),⟨⟨hx,by simpa using he⟩,And.intro (prg_fit p (Nat.le_refl K)) (And.intro (rl_fit x (Nat.le_refl K)) True.intro)⟩,?_⟩
  (repeat((conv=>whnf);refine aig ?_))<;>try(conv=>whnf)
  refine And.intro (fun _=>?_) (fun h=>absurd h (by decide))
  (repeat((conv=>whnf);refine aig ?_))<;>try(conv=>whnf)
  exact (dge _ _).trans (pb_t.2 (weak hf hb))
 ·(repeat((conv=>whnf);refine aig ?_))<;>try(conv=>whnf)
  refine ⟨((((p,y),K),M),false),⟨⟨hy,by simpa using hb⟩,And.intro (prg_fit p (Nat.le_refl K)) (And.intro (rl_fit y (Nat.le_refl K)) True.intro)⟩,?_⟩
  (repeat((conv=>whnf);refine aig ?_))<;>try(conv=>whnf)
  all_goals(repeat' first|exact ayg|apply And.intro|exact azg|fail)
noncomputable def weak11_s:PSpec Tryz.prog:=⟨31,ghSpec ((((Prg × List Rat) × List Rat) × Nat) × Nat) (fun | ((((c0,c1),c2),c3),_)=>[prgAv c0 c3,rlAv c1 c3,rlAv c2 c3]) (fun | ((((c0,c1),c2),c3),c4)=>PX c0 c1 c3 c4∧PY c0 c2 c3 c4) (fun | ((((_,_),_),_),_)=>.kb true),ghSpec_ok (fn:=Tryz.f31) (ctx_ok TT_ok [lbnd_s,lfea_s,lobj_s,rRCmp_s]) mixed_ok (by kernel_rfl) (fun | ((((c0,c1),c2),c3),c4),hp=>weak11_x c0 c1 c2 c3 c4 hp.1 hp.2),by kernel_rfl⟩
set_option smartUnfolding false in
theorem sgnd_x (p:Prg) (f:Nat→Rat) (K n M:Nat) (hb:PB p K) (hn:n≤p.rows.length) (hM:M≤67108864):fnOk ⟨TT,specsOf [rRSign_s,rRNeg_s]⟩ Tryz.f32 [prgAv p K,madeAv f n M] (madeAv (sgnF p f) n M):=by
 have b1:=hb.r
 have b4:=hb.hK
 (repeat((conv=>whnf);refine aig ?_))<;>try(conv=>whnf)
 refine ⟨⟨Nat,fun k=>k≤n,fun k=>[.slot 6 (.val (.int .i64 (k:Int))),.own 5 36 3 k (madeC (sgnF p f) M),.slot 5 (.row 5)],fun k=>n - k,0⟩,0,Nat.zero_le _,?_⟩
 conv=>whnf
 refine And.intro ?_ ?_
 ·all_goals(repeat' first|exact ayg|apply And.intro|exact azg|fail)
 conv=>whnf
 rintro k h2
 (repeat((conv=>whnf);refine aig ?_))<;>try(conv=>whnf)
 refine And.intro (fun h5=>?_) (fun h5=>?_)
 ·have h6:(k:Int) < n:=of_decide_eq_true h5
  have w1:IntKind.i64.wrap ((k:Int) + 1) = (k:Int) + 1:=w64 (by omega) (by omega)
  have f0:(p.rows.getD (k:Int).toNat rowZ).sense = (p.row k).sense:=rfl
  have f1:decide (sgn (f (k:Int).toNat).num > 0) = pb (0 < f k):=sgt _
  have f2:decide (sgn (f (k:Int).toNat).num < 0) = pb (f k < 0):=slt _
  have f3:=@pb_t (0 < f k)
  have f4:=@pb_t (f k < 0)
  repeat' (first|(refine And.intro (fun _=>?_) (fun _=>?_))|((conv=>whnf);refine alg ?_))
  all_goals (try(conv=>whnf))
  all_goals
   refine ⟨k + 1,(show k + 1≤n by omega),(show n - (k + 1) < n - k by omega),?_⟩
   conv=>whnf
   all_goals(repeat' first|exact ayg|apply And.intro|exact azg|fail)
   first | exact made_app (f:=sgnF p f) (sgn_a (by grind)) (.inl (Nat.le_refl _)) | exact made_app (f:=sgnF p f) (sgn_b (by grind)) (.inl (Nat.le_refl _)) | (trace_state;sorry)
 ·have h6:¬ (k:Int) < n:=of_decide_eq_false h5
  obtain rfl:k = n:=by omega
  (repeat((conv=>whnf);refine aig ?_))<;>try(conv=>whnf)
  all_goals(repeat' first|exact ayg|apply And.intro|exact azg|fail)
  exact made_refl _ _ _
noncomputable def sgnd_s:PSpec Tryz.prog:=⟨32,ghSpec ((((Prg × (Nat→Rat)) × Nat) × Nat) × Nat) (fun | ((((p,f),K),n),M)=>[prgAv p K,madeAv f n M]) (fun | ((((p,_),K),n),M)=>PB p K∧n≤p.rows.length∧M≤67108864) (fun | ((((p,f),_),n),M)=>madeAv (sgnF p f) n M),ghSpec_ok (fn:=Tryz.f32) (ctx_ok TT_ok [rRSign_s,rRNeg_s]) mixed_ok (by kernel_rfl) (fun | ((((p,f),K),n),M),hp=>sgnd_x p f K n M hp.1 hp.2.1 hp.2.2),by kernel_rfl⟩
set_option maxHeartbeats 2000000 in
set_option smartUnfolding false in
theorem wd11_x (p:Prg) (x y:List Rat) (K M:Nat) (hx:PX p x K M) (hy:PY p y K M) (F G:Nat→Int) (n m:Nat) (hn:n≤1048576) (hm:m≤1048576):fnOk ⟨TT,specsOf [gprg_s,tnew_s,aw11_s,weak11_s,trats_s,sgnd_s]⟩ Tryz.f4 [prgAv p K,rlAv x K,rlAv y K,tA F n,tA G m] (.val (.bool true)):=by
 obtain ⟨q,hq⟩:∃ q,q = gPrg F n 0 4 4:=⟨_,rfl⟩
 have q1:=hq ▸ gp_bd F n
 have hb:PB q 5:=hq ▸ pb_prg4 F n 0 (by decide)
 have hw:Wt (prgN q) 100:=hq ▸ wt_prg4 F n 0
 have hs2:∀ i,Sz (sgnF q (tRsV G m (tRsI m 0 q.cols.length)) i) 2:=fun i=>sgn_sz (sz_trs G m (tRsI m 0 q.cols.length) i)
 have hw1:Wt (prgN q ++ (List.range q.cols.length).map (tRsV G m 0)) 108:=(hw.app (wt_fun q.cols.length (sz_trs G m 0))).mono (by omega)
 have hw2:Wt (prgN q ++ (List.range q.rows.length).map (sgnF q (tRsV G m (tRsI m 0 q.cols.length)))) 108:=(hw.app (wt_fun q.rows.length hs2)).mono (by omega)
 have hx2:PX q ((List.range q.cols.length).map (tRsV G m 0)) 5 651:=px_of hb hw1 (by decide)
 have hy2:PY q ((List.range q.rows.length).map (sgnF q (tRsV G m (tRsI m 0 q.cols.length)))) 5 651:=py_of hb hw2 (by decide)
 have ht:=tRsI_le (n:=m) (Nat.zero_le m) q.cols.length
 (repeat((conv=>whnf);refine aig ?_))<;>try(conv=>whnf)
 refine ⟨((F,n),q),⟨⟨hn,hq⟩,And.intro (tA_fit F n) True.intro⟩,?_⟩
 (repeat((conv=>whnf);refine aig ?_))<;>try(conv=>whnf)
 refine And.intro ⟨rfl,hm,fun _ _=>rfl⟩ ?_
 (repeat((conv=>whnf);refine aig ?_))<;>try(conv=>whnf)
 refine ⟨((((p,x),y),K),M),⟨⟨hx,hy⟩,And.intro (prg_fit p (Nat.le_refl K)) (And.intro (rl_fit x (Nat.le_refl K)) (And.intro (rl_fit y (Nat.le_refl K)) True.intro))⟩,?_⟩
 (repeat((conv=>whnf);refine aig ?_))<;>try(conv=>whnf)
 refine And.intro ⟨rfl,Int.natCast_nonneg 0,Nat.zero_le _,hm,fun _ _=>rfl,rfl,Int.natCast_nonneg _,by show (q.cols.length:Int)≤1048576;omega⟩ ?_
 (repeat((conv=>whnf);refine aig ?_))<;>try(conv=>whnf)
 refine And.intro ⟨rfl,Int.natCast_nonneg _,ht,hm,fun _ _=>rfl,rfl,Int.natCast_nonneg _,by show (q.rows.length:Int)≤1048576;omega⟩ ?_
 (repeat((conv=>whnf);refine aig ?_))<;>try(conv=>whnf)
 refine ⟨((((q,tRsV G m (tRsI m 0 q.cols.length)),5),q.rows.length),5),⟨⟨hb,Nat.le_refl _,by decide⟩,And.intro (prg_fit q (Nat.le_refl 5)) (And.intro (And.intro rfl (And.intro rfl (made_refl _ _ _))) True.intro)⟩,?_⟩
 (repeat((conv=>whnf);refine aig ?_))<;>try(conv=>whnf)
 refine ⟨((((q,(List.range q.cols.length).map (tRsV G m 0)),(List.range q.rows.length).map (sgnF q (tRsV G m (tRsI m 0 q.cols.length)))),5),651),⟨⟨hx2,hy2⟩,And.intro (prg_fit q (Nat.le_refl 5)) (And.intro (made_fit _ _ (Nat.le_refl 5)) (And.intro (made_fit _ _ (Nat.le_refl 5)) True.intro))⟩,?_⟩
 (repeat((conv=>whnf);refine aig ?_))<;>try(conv=>whnf)
theorem wd11_walk {W:World} {v0 v1 v2 v3 v4:Value} {p:Prg} {x:List Rat} {y:List Rat} {ch:List Int} {nu:List Int} (h0:Rob (fun _=>False) W (prgAv p 1048576) [v0]) (h1:Rob (fun _=>False) W (rlAv x 1048576) [v1]) (h2:Rob (fun _=>False) W (rlAv y 1048576) [v2]) (h3:Rob (fun _=>False) W (ilAv ch) [v3]) (h4:Rob (fun _=>False) W (ilAv nu) [v4]) {n0 n1 n2:Nat} (w0:Wt (prgN p) n0) (w1:Wt x n1) (w2:Wt y n2) (b0:PB p 1048576) (hn:n0 + n1 + n2≤1048576) (l3:ch.length≤1048576) (l4:nu.length≤1048576) :
  Calls Tryz.prog 4 #[v0,v1,v2,v3,v4] W (RetB W true):=
 call_b (fn_ok (own:=fun _=>False) (ctx_ok TT_ok [gprg_s,tnew_s,aw11_s,weak11_s,trats_s,sgnd_s]) mixed_ok (fn:=Tryz.f4) (by kernel_rfl) (wd11_x p x y 1048576 (6 * 1048576 + 3) (px_of b0 ((w0.app w1).mono (by omega)) (by decide)) (py_of b0 ((w0.app w2).mono (by omega)) (by decide)) (fun k=>ch.getD k 0) (fun k=>nu.getD k 0) ch.length nu.length l3 l4) (fun _ h=>h.elim) (.cons h0 (.cons h1 (.cons h2 (.cons h3 (.cons h4 .nil))))))
end Go.Proofs.YtfgkecffpkdjcaaGreat
