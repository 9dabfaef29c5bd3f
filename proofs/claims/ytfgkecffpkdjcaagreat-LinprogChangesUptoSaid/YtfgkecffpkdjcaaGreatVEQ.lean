/- Reference 06: Indices, Get, Norm, Identical, Equal; package law11: rows, columns; by the executor. -/
import Derived.Test.YtfgkecffpkdjcaaGreatVI
namespace Go.Proofs.YtfgkecffpkdjcaaGreat
open Go.RowKit Gm Go.Vx
set_option maxRecDepth 100000
def ixE (es:List (Int × Rat)) (k:Nat):Int:=(es.getD k (0,0)).1
def vlE (es:List (Int × Rat)) (k:Nat):Rat:=(es.getD k (0,0)).2
def ixC (es:List (Int × Rat)) (i:Nat):Av:=.cons (.val (.int .i64 (ixE es i))) .nil
def entQ (es:List (Int × Rat)) (K i:Nat):Av:=.cons (.val (.int .i64 (ixE es i))) (.cons (.ratC (vlE es i) K) .nil)
theorem asc_lt {es:List (Int × Rat)} (h:Asc es) {i:Nat}:∀ {j:Nat},i < j→j < es.length→ixE es i < ixE es j:=by
 intro j
 induction j with
 | zero=>intro hij;omega
 | succ j ih=>
   intro hij hj
   have h1:=h (j + 1) (by omega) hj
   rw [Nat.add_sub_cancel] at h1
   rcases Nat.lt_or_ge i j with hlt | hge
   ·exact Int.lt_trans (ih hlt (by omega)) h1
   ·obtain rfl:i = j:=by omega
    exact h1
theorem asc_ne {es:List (Int × Rat)} (h:Asc es) {i j:Nat} (hi:i < es.length) (hj:j < es.length) (hij:i≠j):ixE es i≠ixE es j:=fun e=>by
 rcases Nat.lt_or_gt_of_ne hij with hl | hl
 ·have:=asc_lt h hl hj;omega
 ·have:=asc_lt h hl hi;omega
theorem ixC_fit (es:List (Int × Rat)) (n:Nat):∀ i,i < n→fitC (ixC es i) (ixC es i):=fun _ _=>And.intro rfl True.intro
theorem ixC_push {es:List (Int × Rat)} {k a b:Nat} {f h x:Nat→Av} (ha:a = k) (hb:b = k + 1) (hf:∀ i,i < k→f i = ixC es i) (hx:x 0 = ixC es k):∀ i,i < k + 1→fitC (ixC es i) (if i < b then (if i < a then f i else x (i - a)) else h i):=fun i hi=>by
 subst ha hb
 rw [if_pos hi]
 by_cases hk:i < a
 ·rw [if_pos hk,hf i hk];exact And.intro rfl True.intro
 ·obtain rfl:i = a:=by omega
  rw [if_neg hk,Nat.sub_self,hx];exact And.intro rfl True.intro
structure EQ (es:List (Int × Rat)) (K:Nat):Prop where
 l:es.length≤1048576
 a:Asc es
 z:∀ k,Sz (vlE es k) K
 n:∀ k,k < es.length→vlE es k≠0
 h1:1≤K
 hK:K≤1048576
theorem entQ_push {es:List (Int × Rat)} {K k:Nat} {x:Nat→Av} (hx:x 0 = entQ es K k):∀ i,i < k + 1→fitC (entQ es K i) (if i < k then entQ es K i else x (i - k)):=fun i hi=>by
 by_cases hk:i < k
 ·rw [if_pos hk];exact And.intro rfl (And.intro (And.intro rfl (.inl (Nat.le_refl K))) True.intro)
 ·obtain rfl:i = k:=by omega
  rw [if_neg hk,Nat.sub_self,hx];exact And.intro rfl (And.intro (And.intro rfl (.inl (Nat.le_refl K))) True.intro)
theorem entQ_fit (es:List (Int × Rat)) (K n:Nat):∀ i,i < n→fitC (entQ es K i) (entQ es K i):=fun _ _=>And.intro rfl (And.intro (And.intro rfl (.inl (Nat.le_refl K))) True.intro)
theorem cmp_self (q:Rat):cmpR q q = 0:=by
 rcases Int.lt_trichotomy (cmpR q q) 0 with h | h | h
 ·exact absurd (cmpR_lt.1 h) Rat.lt_irrefl
 ·exact h
 ·exact absurd (cmpR_gt.1 h) Rat.lt_irrefl
set_option maxHeartbeats 1000000 in
set_option smartUnfolding false in
theorem wix_x (es:List (Int × Rat)) (K:Nat) (hl:es.length≤1048576) (ha:Asc es):fnOk ⟨TT,specsOf ([]:List (PSpec Tryz.prog))⟩ Tryz.f185 [.list 1 1 (fun _=>.cons (entsAv es K) .nil)] (.list 1 es.length (ixC es)):=by
 (repeat((conv=>whnf);refine aig ?_))<;>try(conv=>whnf)
 refine ⟨⟨Nat × Nat,fun c=>c.1≤1∧c.2 = c.1 * es.length,fun c=>[.slot 11 (.val (.int .i64 (c.1:Int))),.own 3 3 1 c.2 (ixC es),.slot 3 (.row 3)],fun c=>1 - c.1,0⟩,(0,0),⟨Nat.zero_le 1,(Nat.zero_mul _).symm⟩,?_⟩
 conv=>whnf
 refine And.intro ?_ ?_
 ·all_goals(repeat' first|exact ayg|apply And.intro|exact azg|fail)
 conv=>whnf
 rintro ⟨c,d⟩ ⟨hc,hd⟩
 (repeat((conv=>whnf);refine aig ?_))<;>try(conv=>whnf)
 refine And.intro (fun h5=>?_) (fun h5=>?_)
 ·have h6:(c:Int) < 1:=of_decide_eq_true h5
  obtain rfl:c = 0:=by omega
  obtain rfl:d = 0:=by simpa using hd
  (repeat((conv=>whnf);refine aig ?_))<;>try(conv=>whnf)
  refine ⟨⟨Nat,fun k=>k≤es.length,fun k=>[.slot 6 (.val (.int .i64 (k:Int))),.own 3 3 1 k (ixC es),.slot 3 (.row 3)],fun k=>es.length - k,0⟩,0,Nat.zero_le _,?_⟩
  conv=>whnf
  refine And.intro ?_ ?_
  ·all_goals(repeat' first|exact ayg|apply And.intro|exact azg|fail)
   all_goals exact ixC_fit _ _
  conv=>whnf
  rintro k hk
  (repeat((conv=>whnf);refine aig ?_))<;>try(conv=>whnf)
  refine And.intro (fun h7=>?_) (fun h7=>?_)
  ·have h8:(k:Int) < es.length:=of_decide_eq_true h7
   have w1:IntKind.i64.wrap ((k:Int) + 1) = (k:Int) + 1:=w64 (by omega) (by omega)
   (repeat((conv=>whnf);refine aig ?_))<;>try(conv=>whnf)
   refine ⟨⟨Nat,fun a=>a≤k,fun a=>[.slot 7 (.val (.int .i64 (a:Int)))],fun a=>k - a,0⟩,0,Nat.zero_le _,?_⟩
   conv=>whnf
   refine And.intro ?_ ?_
   ·all_goals(repeat' first|exact ayg|apply And.intro|exact azg|fail)
   conv=>whnf
   rintro a h9
   have w2:a < k→IntKind.i64.wrap ((a:Int) + 1) = (a:Int) + 1:=fun h=>w64 (by omega) (by omega)
   have hlt:a < k→ixE es (a:Int).toNat < (es.getD (k:Int).toNat (0,0)).1:=fun h=>asc_lt ha h (by omega)
   (repeat((conv=>whnf);refine aig ?_))<;>try(conv=>whnf)
   refine And.intro (fun h10=>?_) (fun h10=>?_)
   ·have h11:(a:Int) < k:=of_decide_eq_true h10
    have h12:a < k:=by omega
    have w3:=w2 h12
    (repeat((conv=>whnf);refine aig ?_))<;>try(conv=>whnf)
    refine And.intro (fun _=>?_) (fun h=>absurd (hlt h12) (of_decide_eq_false h))
    (repeat((conv=>whnf);refine aig ?_))<;>try(conv=>whnf)
    refine ⟨a + 1,(show a + 1≤k by omega),(show k - (a + 1) < k - a by omega),?_⟩
    conv=>whnf
    all_goals(repeat' first|exact ayg|apply And.intro|exact azg|fail)
   ·have h11:¬ (a:Int) < k:=of_decide_eq_false h10
    have e:a = k:=Nat.le_antisymm h9 (Nat.le_of_not_lt fun h=>h11 (Int.ofNat_lt.2 h))
    clear w2 hlt
    subst e
    (repeat((conv=>whnf);refine aig ?_))<;>try(conv=>whnf)
    refine And.intro (fun h=>absurd (of_decide_eq_true h) h11) (fun _=>?_)
    (repeat((conv=>whnf);refine aig ?_))<;>try(conv=>whnf)
    refine ⟨a + 1,(show a + 1≤es.length by omega),(show es.length - (a + 1) < es.length - a by omega),?_⟩
    conv=>whnf
    all_goals(repeat' first|exact ayg|apply And.intro|exact azg|fail)
    exact ixC_push (by rw [Int.sub_zero,Nat.zero_add];rfl) (by rw [Int.sub_zero,Nat.zero_add];rfl) (fun i _=>(if_neg (Nat.not_lt_zero i)).trans rfl) rfl
  ·have h8:¬ (k:Int) < es.length:=of_decide_eq_false h7
   obtain rfl:k = es.length:=by omega
   (repeat((conv=>whnf);refine aig ?_))<;>try(conv=>whnf)
   refine ⟨(1,es.length),⟨Nat.le_refl 1,(Nat.one_mul _).symm⟩,(show 1 - 1 < 1 - 0 by decide),?_⟩
   conv=>whnf
   all_goals(repeat' first|exact ayg|apply And.intro|exact azg|fail)
   exact ixC_fit _ _
 have h6:¬ (c:Int) < 1:=of_decide_eq_false h5
 obtain rfl:c = 1:=by omega
 obtain rfl:d = es.length:=by simpa using hd
 (repeat((conv=>whnf);refine aig ?_))<;>try(conv=>whnf)
 all_goals(repeat' first|exact ayg|apply And.intro|exact azg|fail)
 exact ixC_fit _ _
noncomputable def wix_s:PSpec Tryz.prog:=⟨185,ghSpec (List (Int × Rat) × Nat) (fun | (c0,c1)=>[.list 1 1 (fun _=>.cons (entsAv c0 c1) .nil)]) (fun | (c0,_)=>c0.length≤1048576∧Asc c0) (fun | (c0,_)=>.list 1 c0.length (ixC c0)),ghSpec_ok (fn:=Tryz.f185) (ctx_ok TT_ok ([]:List (PSpec Tryz.prog))) mixed_ok (by kernel_rfl) (fun | (c0,c1),hp=>wix_x c0 c1 hp.1 hp.2),by kernel_rfl⟩
set_option smartUnfolding false in
theorem wget_x (es:List (Int × Rat)) (K j:Nat) (h:EQ es K) (hj:j < es.length):fnOk ⟨TT,specsOf [rZero_s,rRAdd_s]⟩ Tryz.f186 [entsAv es K,.val (.int .i64 (ixE es j))] (qAv (vlE es j) K):=by
 have b1:=h.l
 have b2:=h.h1
 have b3:=h.hK
 have hz:=h.z j
 (repeat((conv=>whnf);refine aig ?_))<;>try(conv=>whnf)
 refine ⟨⟨Nat,fun k=>k≤es.length,fun k=>[.slot 6 (.val (.int .i64 (k:Int))),.obj 5 (.cons (.ratC (if j < k then vlE es j else 0) K) .nil)],fun k=>es.length - k,0⟩,0,Nat.zero_le _,?_⟩
 conv=>whnf
 refine And.intro ?_ ?_
 ·all_goals(repeat' first|exact ayg|apply And.intro|exact azg|fail)
 conv=>whnf
 rintro k hk
 (repeat((conv=>whnf);refine aig ?_))<;>try(conv=>whnf)
 refine And.intro (fun h5=>?_) (fun h5=>?_)
 ·have h6:(k:Int) < es.length:=of_decide_eq_true h5
  have w1:IntKind.i64.wrap ((k:Int) + 1) = (k:Int) + 1:=w64 (by omega) (by omega)
  (repeat((conv=>whnf);refine aig ?_))<;>try(conv=>whnf)
  refine And.intro (fun h7=>?_) (fun h7=>?_)
  ·have h8:ixE es k = ixE es j:=eq_of_beq h7
   have e:k = j:=Classical.byContradiction fun hn=>asc_ne h.a (by omega) hj hn h8
   have q1:(if j < k then vlE es j else 0) + (es.getD (k:Int).toNat (0,0)).2 = if j < k + 1 then vlE es j else 0:=by
    subst e;rw [if_neg (Nat.lt_irrefl k),if_pos (Nat.lt_succ_self k),Rat.zero_add];rfl
   have q2:Sz ((if j < k then vlE es j else 0) + (es.getD (k:Int).toNat (0,0)).2) K:=by
    rw [q1,if_pos (by omega)];exact hz
   (repeat((conv=>whnf);refine aig ?_))<;>try(conv=>whnf)
   refine ⟨k + 1,(show k + 1≤es.length by omega),(show es.length - (k + 1) < es.length - k by omega),?_⟩
   conv=>whnf
   all_goals(repeat' first|exact ayg|apply And.intro|exact azg|fail)
  ·have e:k≠j:=fun e=>absurd (h7.symm.trans (beq_iff_eq.2 (show ixE es k = ixE es j by rw [e]))) Bool.false_ne_true
   have q1:(if j < k then vlE es j else 0) = if j < k + 1 then vlE es j else 0:=by
    by_cases hjk:j < k
    ·rw [if_pos hjk,if_pos (by omega)]
    ·rw [if_neg hjk,if_neg (by omega)]
   (repeat((conv=>whnf);refine aig ?_))<;>try(conv=>whnf)
   refine ⟨k + 1,(show k + 1≤es.length by omega),(show es.length - (k + 1) < es.length - k by omega),?_⟩
   conv=>whnf
   all_goals(repeat' first|exact ayg|apply And.intro|exact azg|fail)
 have h6:¬ (k:Int) < es.length:=of_decide_eq_false h5
 have q1:(if j < k then vlE es j else 0) = vlE es j:=if_pos (by omega)
 (repeat((conv=>whnf);refine aig ?_))<;>try(conv=>whnf)
 all_goals(repeat' first|exact ayg|apply And.intro|exact azg|fail)
noncomputable def wget_s:PSpec Tryz.prog:=⟨186,ghSpec ((List (Int × Rat) × Nat) × Nat) (fun | ((c0,c1),c2)=>[entsAv c0 c1,.val (.int .i64 (ixE c0 c2))]) (fun | ((c0,c1),c2)=>EQ c0 c1∧c2 < c0.length) (fun | ((c0,c1),c2)=>qAv (vlE c0 c2) c1),ghSpec_ok (fn:=Tryz.f186) (ctx_ok TT_ok [rZero_s,rRAdd_s]) mixed_ok (by kernel_rfl) (fun | ((c0,c1),c2),hp=>wget_x c0 c1 c2 hp.1 hp.2),by kernel_rfl⟩
set_option smartUnfolding false in
theorem wnrm_x (es:List (Int × Rat)) (K:Nat) (h:EQ es K):fnOk ⟨TT,specsOf [wix_s,wget_s,rRSign_s]⟩ Tryz.f154 [entsAv es K] (.list 4 es.length (entQ es K)):=by
 have b1:=h.l
 have b2:=h.h1
 have b3:=h.hK
 (repeat((conv=>whnf);refine aig ?_))<;>try(conv=>whnf)
 refine ⟨(es,K),⟨⟨b1,h.a⟩,And.intro (And.intro rfl (And.intro rfl fun i hi=>match i,hi with | 0,_=>And.intro (ents_fit es (Nat.le_refl K)) True.intro | i + 1,hi=>absurd hi (by omega))) True.intro⟩,?_⟩
 (repeat((conv=>whnf);refine aig ?_))<;>try(conv=>whnf)
 refine ⟨⟨Nat,fun k=>k≤es.length,fun k=>[.slot 11 (.val (.int .i64 (k:Int))),.own 3 117 4 k (entQ es K),.slot 3 (.row 3)],fun k=>es.length - k,0⟩,0,Nat.zero_le _,?_⟩
 conv=>whnf
 refine And.intro ?_ ?_
 ·all_goals(repeat' first|exact ayg|apply And.intro|exact azg|fail)
 conv=>whnf
 rintro k hk
 (repeat((conv=>whnf);refine aig ?_))<;>try(conv=>whnf)
 refine And.intro (fun h5=>?_) (fun h5=>?_)
 ·have h6:(k:Int) < es.length:=of_decide_eq_true h5
  have w1:IntKind.i64.wrap ((k:Int) + 1) = (k:Int) + 1:=w64 (by omega) (by omega)
  (repeat((conv=>whnf);refine aig ?_))<;>try(conv=>whnf)
  refine ⟨((es,K),k),⟨⟨h,by omega⟩,And.intro (ents_fit es (Nat.le_refl K)) (And.intro rfl True.intro)⟩,?_⟩
  have q0:(sgn (vlE es k).num == 0) = false:=by
   cases hb:(sgn (vlE es k).num == 0) with
   | false=>rfl
   | true=>exact absurd ((sgq _).1 hb) (h.n k (by omega))
  (repeat((conv=>whnf);refine aig ?_))<;>try(conv=>whnf)
  refine And.intro (fun _=>?_) (fun h7=>absurd (show (!(sgn (vlE es k).num == 0)) = false from h7) (by rw [q0];decide))
  (repeat((conv=>whnf);refine aig ?_))<;>try(conv=>whnf)
  refine ⟨k + 1,(show k + 1≤es.length by omega),(show es.length - (k + 1) < es.length - k by omega),?_⟩
  conv=>whnf
  all_goals(repeat' first|exact ayg|apply And.intro|exact azg|fail)
  exact entQ_push rfl
 have h6:¬ (k:Int) < es.length:=of_decide_eq_false h5
 obtain rfl:k = es.length:=by omega
 (repeat((conv=>whnf);refine aig ?_))<;>try(conv=>whnf)
 all_goals(repeat' first|exact ayg|apply And.intro|exact azg|fail)
 exact entQ_fit _ _ _
noncomputable def wnrm_s:PSpec Tryz.prog:=⟨154,ghSpec (List (Int × Rat) × Nat) (fun | (c0,c1)=>[entsAv c0 c1]) (fun | (c0,c1)=>EQ c0 c1) (fun | (c0,c1)=>.list 4 c0.length (entQ c0 c1)),ghSpec_ok (fn:=Tryz.f154) (ctx_ok TT_ok [wix_s,wget_s,rRSign_s]) mixed_ok (by kernel_rfl) (fun | (c0,c1),hp=>wnrm_x c0 c1 hp),by kernel_rfl⟩
set_option smartUnfolding false in
theorem wide_x (es:List (Int × Rat)) (K:Nat) (h:EQ es K):fnOk ⟨TT,specsOf [rCan_s,rREq_s]⟩ Tryz.f153 [.list 4 es.length (entQ es K),.list 4 es.length (entQ es K)] (.kb true):=by
 have b1:=h.l
 have b3:=h.hK
 (repeat((conv=>whnf);refine aig ?_))<;>try(conv=>whnf)
 (repeat' (first | (refine And.intro (fun h=>?_) (fun _=>?_);focus (exfalso;revert h;first | decide | (simp;done))) | (refine And.intro (fun _=>?_) (fun h=>?_);rotate_left;focus (exfalso;revert h;first | decide | (simp;done))) | ((conv=>whnf);refine aig ?_)))<;>try (conv=>whnf)
 refine ⟨⟨Nat,fun k=>k≤es.length,fun k=>[.slot 5 (.val (.int .i64 (k:Int)))],fun k=>es.length - k,0⟩,0,Nat.zero_le _,?_⟩
 conv=>whnf
 refine And.intro ?_ ?_
 ·all_goals(repeat' first|exact ayg|apply And.intro|exact azg|fail)
 conv=>whnf
 rintro k hk
 (repeat((conv=>whnf);refine aig ?_))<;>try(conv=>whnf)
 refine And.intro (fun h5=>?_) (fun h5=>?_)
 ·have h6:(k:Int) < es.length:=of_decide_eq_true h5
  have w1:IntKind.i64.wrap ((k:Int) + 1) = (k:Int) + 1:=w64 (by omega) (by omega)
  (repeat' (first | (refine And.intro (fun h=>?_) (fun _=>?_);focus (exfalso;revert h;first | decide | (simp;done))) | (refine And.intro (fun _=>?_) (fun h=>?_);rotate_left;focus (exfalso;revert h;first | decide | (simp;done))) | ((conv=>whnf);refine aig ?_)))<;>try (conv=>whnf)
  refine ⟨(vlE es k,K),⟨by omega,And.intro (And.intro (And.intro rfl (.inl (Nat.le_refl K))) True.intro) True.intro⟩,?_⟩
  (repeat' (first | (refine And.intro (fun h=>?_) (fun _=>?_);focus (exfalso;revert h;first | decide | (simp;done))) | (refine And.intro (fun _=>?_) (fun h=>?_);rotate_left;focus (exfalso;revert h;first | decide | (simp;done))) | ((conv=>whnf);refine aig ?_)))<;>try (conv=>whnf)
  refine ⟨k + 1,(show k + 1≤es.length by omega),(show es.length - (k + 1) < es.length - k by omega),?_⟩
  conv=>whnf
  all_goals(repeat' first|exact ayg|apply And.intro|exact azg|fail)
 ·(repeat((conv=>whnf);refine aig ?_))<;>try(conv=>whnf)
  all_goals(repeat' first|exact ayg|apply And.intro|exact azg|fail)
noncomputable def wide_s:PSpec Tryz.prog:=⟨153,ghSpec (List (Int × Rat) × Nat) (fun | (c0,c1)=>[.list 4 c0.length (entQ c0 c1),.list 4 c0.length (entQ c0 c1)]) (fun | (c0,c1)=>EQ c0 c1) (fun | (_,_)=>.kb true),ghSpec_ok (fn:=Tryz.f153) (ctx_ok TT_ok [rCan_s,rREq_s]) mixed_ok (by kernel_rfl) (fun | (c0,c1),hp=>wide_x c0 c1 hp),by kernel_rfl⟩
set_option smartUnfolding false in
theorem weqE_x (es:List (Int × Rat)) (K:Nat) (h:EQ es K):fnOk ⟨TT,specsOf [wnrm_s,wide_s]⟩ Tryz.f97 [entsAv es K,entsAv es K] (.kb true):=by
 (repeat((conv=>whnf);refine aig ?_))<;>try(conv=>whnf)
 refine ⟨(es,K),⟨h,And.intro (ents_fit es (Nat.le_refl K)) True.intro⟩,?_⟩
 (repeat((conv=>whnf);refine aig ?_))<;>try(conv=>whnf)
 refine ⟨(es,K),⟨h,And.intro (ents_fit es (Nat.le_refl K)) True.intro⟩,?_⟩
 (repeat((conv=>whnf);refine aig ?_))<;>try(conv=>whnf)
 refine ⟨(es,K),⟨h,And.intro (And.intro rfl (And.intro rfl (entQ_fit _ _ _))) (And.intro (And.intro rfl (And.intro rfl (entQ_fit _ _ _))) True.intro)⟩,?_⟩
 (repeat((conv=>whnf);refine aig ?_))<;>try(conv=>whnf)
 all_goals(repeat' first|exact ayg|apply And.intro|exact azg|fail)
noncomputable def weqE_s:PSpec Tryz.prog:=⟨97,ghSpec (List (Int × Rat) × Nat) (fun | (c0,c1)=>[entsAv c0 c1,entsAv c0 c1]) (fun | (c0,c1)=>EQ c0 c1) (fun | (_,_)=>.kb true),ghSpec_ok (fn:=Tryz.f97) (ctx_ok TT_ok [wnrm_s,wide_s]) mixed_ok (by kernel_rfl) (fun | (c0,c1),hp=>weqE_x c0 c1 hp),by kernel_rfl⟩
set_option smartUnfolding false in
theorem rows11_x (R:List LRow) (K:Nat) (hl:R.length≤1048576) (hK:K≤1048576) (h:∀ i,i < R.length→EQ (R.getD i rowZ).es K):fnOk ⟨TT,specsOf [rRCmp_s,weqE_s]⟩ Tryz.f45 [rowsAv R K,rowsAv R K] (.kb true):=by
 (repeat((conv=>whnf);refine aig ?_))<;>try(conv=>whnf)
 (repeat' (first | (refine And.intro (fun h=>?_) (fun _=>?_);focus (exfalso;revert h;first | decide | (simp;done))) | (refine And.intro (fun _=>?_) (fun h=>?_);rotate_left;focus (exfalso;revert h;first | decide | (simp;done))) | ((conv=>whnf);refine aig ?_)))<;>try (conv=>whnf)
 refine ⟨⟨Nat,fun k=>k≤R.length,fun k=>[.slot 5 (.val (.int .i64 (k:Int)))],fun k=>R.length - k,0⟩,0,Nat.zero_le _,?_⟩
 conv=>whnf
 refine And.intro ?_ ?_
 ·all_goals(repeat' first|exact ayg|apply And.intro|exact azg|fail)
 conv=>whnf
 rintro k hk
 (repeat((conv=>whnf);refine aig ?_))<;>try(conv=>whnf)
 refine And.intro (fun h5=>?_) (fun h5=>?_)
 ·have h6:(k:Int) < R.length:=of_decide_eq_true h5
  have w1:IntKind.i64.wrap ((k:Int) + 1) = (k:Int) + 1:=w64 (by omega) (by omega)
  have c1:∀ q:Rat,cmpR q q = 0:=cmp_self
  have hk':=h k (by omega)
  (repeat' (first | (refine And.intro (fun h=>?_) (fun _=>?_);focus (exfalso;revert h;first | decide | (simp;done) | (simp [c1];done))) | (refine And.intro (fun _=>?_) (fun h=>?_);rotate_left;focus (exfalso;revert h;first | decide | (simp;done) | (simp [c1];done))) | ((conv=>whnf);refine aig ?_)))<;>try (conv=>whnf)
  refine ⟨((R.getD k rowZ).es,K),⟨hk',And.intro (ents_fit _ (Nat.le_refl K)) (And.intro (ents_fit _ (Nat.le_refl K)) True.intro)⟩,?_⟩
  (repeat((conv=>whnf);refine aig ?_))<;>try(conv=>whnf)
  refine ⟨k + 1,(show k + 1≤R.length by omega),(show R.length - (k + 1) < R.length - k by omega),?_⟩
  conv=>whnf
  all_goals(repeat' first|exact ayg|apply And.intro|exact azg|fail)
 ·(repeat((conv=>whnf);refine aig ?_))<;>try(conv=>whnf)
  all_goals(repeat' first|exact ayg|apply And.intro|exact azg|fail)
noncomputable def rows11_s:PSpec Tryz.prog:=⟨45,ghSpec (List LRow × Nat) (fun | (c0,c1)=>[rowsAv c0 c1,rowsAv c0 c1]) (fun | (c0,c1)=>c0.length≤1048576∧c1≤1048576∧(∀ i,i < c0.length→EQ (c0.getD i rowZ).es c1)) (fun | (_,_)=>.kb true),ghSpec_ok (fn:=Tryz.f45) (ctx_ok TT_ok [rRCmp_s,weqE_s]) mixed_ok (by kernel_rfl) (fun | (c0,c1),hp=>rows11_x c0 c1 hp.1 hp.2.1 hp.2.2),by kernel_rfl⟩
set_option smartUnfolding false in
theorem cols11_x (C:List LCol) (K:Nat) (hl:C.length≤1048576) (hK:K≤1048576):fnOk ⟨TT,specsOf [rRCmp_s]⟩ Tryz.f44 [colsAv C K,colsAv C K] (.kb true):=by
 (repeat((conv=>whnf);refine aig ?_))<;>try(conv=>whnf)
 (repeat' (first | (refine And.intro (fun h=>?_) (fun _=>?_);focus (exfalso;revert h;first | decide | (simp;done))) | (refine And.intro (fun _=>?_) (fun h=>?_);rotate_left;focus (exfalso;revert h;first | decide | (simp;done))) | ((conv=>whnf);refine aig ?_)))<;>try (conv=>whnf)
 refine ⟨⟨Nat,fun k=>k≤C.length,fun k=>[.slot 5 (.val (.int .i64 (k:Int)))],fun k=>C.length - k,0⟩,0,Nat.zero_le _,?_⟩
 conv=>whnf
 refine And.intro ?_ ?_
 ·all_goals(repeat' first|exact ayg|apply And.intro|exact azg|fail)
 conv=>whnf
 rintro k hk
 (repeat((conv=>whnf);refine aig ?_))<;>try(conv=>whnf)
 refine And.intro (fun h5=>?_) (fun h5=>?_)
 ·have h6:(k:Int) < C.length:=of_decide_eq_true h5
  have w1:IntKind.i64.wrap ((k:Int) + 1) = (k:Int) + 1:=w64 (by omega) (by omega)
  have c1:∀ q:Rat,cmpR q q = 0:=cmp_self
  (repeat' (first | (refine And.intro (fun h=>?_) (fun _=>?_);focus (exfalso;revert h;first | decide | (simp;done) | (simp [c1];done))) | (refine And.intro (fun _=>?_) (fun h=>?_);rotate_left;focus (exfalso;revert h;first | decide | (simp;done) | (simp [c1];done))) | ((conv=>whnf);refine aig ?_)))<;>try (conv=>whnf)
  refine ⟨k + 1,(show k + 1≤C.length by omega),(show C.length - (k + 1) < C.length - k by omega),?_⟩
  conv=>whnf
  all_goals(repeat' first|exact ayg|apply And.intro|exact azg|fail)
 ·(repeat((conv=>whnf);refine aig ?_))<;>try(conv=>whnf)
  all_goals(repeat' first|exact ayg|apply And.intro|exact azg|fail)
noncomputable def cols11_s:PSpec Tryz.prog:=⟨44,ghSpec (List LCol × Nat) (fun | (c0,c1)=>[colsAv c0 c1,colsAv c0 c1]) (fun | (c0,c1)=>c0.length≤1048576∧c1≤1048576) (fun | (_,_)=>.kb true),ghSpec_ok (fn:=Tryz.f44) (ctx_ok TT_ok [rRCmp_s]) mixed_ok (by kernel_rfl) (fun | (c0,c1),hp=>cols11_x c0 c1 hp.1 hp.2),by kernel_rfl⟩
end Go.Proofs.YtfgkecffpkdjcaaGreat
