/- Package linprog: Append, by the executor (builtin copy). -/
import Derived.Test.YtfgkecffpkdjcaaGreatVL
namespace Go.Proofs.YtfgkecffpkdjcaaGreat
open Go.RowKit Gm Go.Vx
set_option maxRecDepth 100000
def entK (r:LRow) (K k:Nat):Av:=entC (r.es.getD k (0,0)) K
theorem entK_fit (r:LRow) (K n:Nat):∀ i,i < n→fitC (entK r K i) (entK r K i):=fun _ _=>ent_fit _ (Nat.le_refl K)
theorem entK_in (r:LRow) (K n t:Nat) {z:Av} (h:n≤t):∀ i,i < n→fitC (entK r K i) (if i < t then entK r K i else z):=fun i hi=>by rw [if_pos (by omega)];exact ent_fit _ (Nat.le_refl K)
theorem entK_up (r:LRow) (K n j:Nat):∀ i,i < n→fitC (entK r K i) (if i = j then .cons (.val (.int .i64 (r.ix j))) (.cons (.ratC (r.vl j) K) .nil) else entK r K i):=fun i _=>by
 by_cases h:i = j
 ·subst h;rw [if_pos rfl];exact And.intro rfl (And.intro (And.intro rfl (.inl (Nat.le_refl K))) True.intro)
 ·rw [if_neg h];exact ent_fit _ (Nat.le_refl K)
def colF (p:Prg) (K k:Nat):Av:=colC (p.col k) K
def rowF (l:List LRow) (K k:Nat):Av:=rowC (l.getD k rowZ) K
theorem colF_in (p:Prg) (K n t:Nat) {z:Av} (h:n≤t):∀ i,i < n→fitC (colF p K i) (if i < t then colF p K i else z):=fun i hi=>by rw [if_pos (by omega)];exact col_fit _ (Nat.le_refl K)
theorem colF_up (p:Prg) (K n j:Nat):∀ i,i < n→fitC (colF p K i) (if i = j then colC (p.col j) K else colF p K i):=fun i _=>by
 by_cases h:i = j
 ·subst h;rw [if_pos rfl];exact col_fit _ (Nat.le_refl K)
 ·rw [if_neg h];exact col_fit _ (Nat.le_refl K)
theorem rowF_up (l:List LRow) (K n j:Nat):∀ i,i < n→fitC (rowF l K i) (if i = j then rowC (l.getD j rowZ) K else rowF l K i):=fun i _=>by
 by_cases h:i = j
 ·subst h;rw [if_pos rfl];exact row_fit _ (Nat.le_refl K)
 ·rw [if_neg h];exact row_fit _ (Nat.le_refl K)
theorem rows_es {P R:List LRow} (h:∀ i,(P.getD i rowZ).es.length≤1048576) (k:∀ i,(R.getD i rowZ).es.length≤1048576) (i:Nat):((P ++ R).getD i rowZ).es.length≤1048576:=by
 by_cases hi:i < P.length
 ·have e:(P ++ R).getD i rowZ = P.getD i rowZ:=by simp only [List.getD_eq_getElem?_getD,List.getElem?_append_left hi]
  rw [e];exact h i
 ·have e:(P ++ R).getD i rowZ = R.getD (i - P.length) rowZ:=by simp only [List.getD_eq_getElem?_getD,List.getElem?_append_right (Nat.le_of_not_lt hi)]
  rw [e];exact k _
theorem rowF_in (P R:List LRow) (K n a t s:Nat) {z:Av} (hn:n = P.length + R.length) (ha:a = P.length) (ht:t = R.length) (hs:s = P.length):∀ i,i < n→fitC (rowF (P ++ R) K i) (if a≤i∧i < a + t then rowF R K (i - a) else if i < s then rowF P K i else z):=fun i hi=>by
 subst ha ht hs
 by_cases h:P.length≤i
 ·rw [if_pos ⟨h,by omega⟩]
  have e:(P ++ R).getD i rowZ = R.getD (i - P.length) rowZ:=by simp only [List.getD_eq_getElem?_getD,List.getElem?_append_right h]
  show fitC (rowC ((P ++ R).getD i rowZ) K) (rowC (R.getD (i - P.length) rowZ) K)
  rw [e];exact row_fit _ (Nat.le_refl K)
 ·rw [if_neg (fun hh=>h hh.1),if_pos (by omega)]
  have e:(P ++ R).getD i rowZ = P.getD i rowZ:=by simp only [List.getD_eq_getElem?_getD,List.getElem?_append_left (show i < P.length by omega)]
  show fitC (rowC ((P ++ R).getD i rowZ) K) (rowC (P.getD i rowZ) K)
  rw [e];exact row_fit _ (Nat.le_refl K)
set_option smartUnfolding false in
theorem ccol_x (c:LCol) (K:Nat) (hK:K≤16777216):fnOk ⟨TT,specsOf [RNorm_s]⟩ Tryz.f94 [.agg (colC c K)] (.agg (colC c K)):=by
 (repeat((conv=>whnf);refine aig ?_))<;>try(conv=>whnf)
 all_goals(repeat' first|exact ayg|apply And.intro|exact azg|fail)
noncomputable def ccol_s:PSpec Tryz.prog:=⟨94,ghSpec (LCol × Nat) (fun | (c0,c1)=>[.agg (colC c0 c1)]) (fun | (_,c1)=>c1≤16777216) (fun | (c0,c1)=>.agg (colC c0 c1)),ghSpec_ok (fn:=Tryz.f94) (ctx_ok TT_ok [RNorm_s]) mixed_ok (by kernel_rfl) (fun | (c0,c1),hp=>ccol_x c0 c1 hp),by kernel_rfl⟩
set_option smartUnfolding false in
theorem crow_x (r:LRow) (K:Nat) (hl:r.es.length≤1048576) (hK:K≤16777216):fnOk ⟨TT,specsOf [RNorm_s]⟩ Tryz.f95 [.agg (rowC r K)] (.agg (rowC r K)):=by
 (repeat((conv=>whnf);refine aig ?_))<;>try(conv=>whnf)
 refine ⟨⟨Nat,fun k=>k≤r.es.length,fun k=>[.slot 15 (.val (.int .i64 (k:Int))),.mod 8 117 4 r.es.length (entK r K)],fun k=>r.es.length - k,0⟩,0,Nat.zero_le _,?_⟩
 conv=>whnf
 refine And.intro ?_ ?_
 ·all_goals(repeat' first|exact ayg|apply And.intro|exact azg|fail)
  exact entK_in _ _ _ _ (by omega)
 conv=>whnf
 rintro k h3
 (repeat((conv=>whnf);refine aig ?_))<;>try(conv=>whnf)
 refine And.intro (fun h5=>?_) (fun h5=>?_)
 ·have h6:(k:Int) < r.es.length:=of_decide_eq_true h5
  have w1:IntKind.i64.wrap ((k:Int) + 1) = (k:Int) + 1:=w64 (by omega) (by omega)
  (repeat((conv=>whnf);refine aig ?_))<;>try(conv=>whnf)
  refine ⟨.cons (.val (.int .i64 (r.ix k))) (.cons (.rat (r.vl k) K) .nil),⟨rfl,by omega,rfl⟩,?_⟩
  (repeat((conv=>whnf);refine aig ?_))<;>try(conv=>whnf)
  refine ⟨k + 1,(show k + 1≤r.es.length by omega),(show r.es.length - (k + 1) < r.es.length - k by omega),?_⟩
  conv=>whnf
  all_goals(repeat' first|exact ayg|apply And.intro|exact azg|fail)
  exact entK_up _ _ _ _
 ·have h6:¬ (k:Int) < r.es.length:=of_decide_eq_false h5
  obtain rfl:k = r.es.length:=by omega
  (repeat((conv=>whnf);refine aig ?_))<;>try(conv=>whnf)
  all_goals(repeat' first|exact ayg|apply And.intro|exact azg|fail)
  exact entK_fit _ _ _
noncomputable def crow_s:PSpec Tryz.prog:=⟨95,ghSpec (LRow × Nat) (fun | (c0,c1)=>[.agg (rowC c0 c1)]) (fun | (c0,c1)=>c0.es.length≤1048576∧c1≤16777216) (fun | (c0,c1)=>.agg (rowC c0 c1)),ghSpec_ok (fn:=Tryz.f95) (ctx_ok TT_ok [RNorm_s]) mixed_ok (by kernel_rfl) (fun | (c0,c1),hp=>crow_x c0 c1 hp.1 hp.2),by kernel_rfl⟩
set_option smartUnfolding false in
theorem lapp_x (p:Prg) (R:List LRow) (K:Nat) (hb:PB p K) (hR:R.length≤1048576) (he:∀ i,(R.getD i rowZ).es.length≤1048576):fnOk ⟨TT,specsOf [ccol_s,crow_s]⟩ Tryz.f39 [prgAv p K,rowsAv R K] (prgAv ⟨p.cols,p.rows ++ R⟩ K):=by
 have b1:=hb.c
 have b2:=hb.r
 have b4:=hb.hK
 have hl:(p.rows ++ R).length = p.rows.length + R.length:=List.length_append
 have hee:∀ i,((p.rows ++ R).getD i rowZ).es.length≤1048576:=fun i=>rows_es hb.e he i
 have w2:IntKind.i64.wrap ((p.rows.length:Int) + (R.length:Int)) = (p.rows.length:Int) + (R.length:Int):=w64 (by omega) (by omega)
 (repeat((conv=>whnf);refine aig ?_))<;>try(conv=>whnf)
 refine ⟨⟨Nat,fun k=>k≤p.cols.length,fun k=>[.slot 19 (.val (.int .i64 (k:Int))),.mod 12 61 11 p.cols.length (colF p K)],fun k=>p.cols.length - k,0⟩,0,Nat.zero_le _,?_⟩
 conv=>whnf
 refine And.intro ?_ ?_
 ·all_goals(repeat' first|exact ayg|apply And.intro|exact azg|fail)
  exact colF_in _ _ _ _ (by omega)
 conv=>whnf
 rintro k h3
 (repeat((conv=>whnf);refine aig ?_))<;>try(conv=>whnf)
 refine And.intro (fun h5=>?_) (fun h5=>?_)
 ·have h6:(k:Int) < p.cols.length:=of_decide_eq_true h5
  have w1:IntKind.i64.wrap ((k:Int) + 1) = (k:Int) + 1:=w64 (by omega) (by omega)
  (repeat((conv=>whnf);refine aig ?_))<;>try(conv=>whnf)
  refine ⟨(p.col k,K),⟨b4,And.intro (col_fit _ (Nat.le_refl K)) True.intro⟩,?_⟩
  (repeat((conv=>whnf);refine aig ?_))<;>try(conv=>whnf)
  refine ⟨k + 1,(show k + 1≤p.cols.length by omega),(show p.cols.length - (k + 1) < p.cols.length - k by omega),?_⟩
  conv=>whnf
  all_goals(repeat' first|exact ayg|apply And.intro|exact azg|fail)
  exact colF_up _ _ _ _
 have h6:¬ (k:Int) < p.cols.length:=of_decide_eq_false h5
 obtain rfl:k = p.cols.length:=by omega
 (repeat((conv=>whnf);refine aig ?_))<;>try(conv=>whnf)
 refine ⟨⟨Nat,fun k=>k≤p.rows.length + R.length,fun k=>[.slot 48 (.val (.int .i64 (k:Int))),.mod 37 56 5 (p.rows.length + R.length) (rowF (p.rows ++ R) K)],fun k=>p.rows.length + R.length - k,0⟩,0,Nat.zero_le _,?_⟩
 conv=>whnf
 refine And.intro ?_ ?_
 ·all_goals(repeat' first|exact ayg|apply And.intro|exact azg|fail)
  exact rowF_in _ _ _ _ _ _ _ rfl (by omega) (by omega) (by omega)
 conv=>whnf
 rintro k h3
 (repeat((conv=>whnf);refine aig ?_))<;>try(conv=>whnf)
 refine And.intro (fun h5=>?_) (fun h5=>?_)
 ·have h6:(k:Int) < ((IntKind.i64.wrap ((p.rows.length:Int) + (R.length:Int))).toNat:Int):=of_decide_eq_true h5
  have w1:IntKind.i64.wrap ((k:Int) + 1) = (k:Int) + 1:=w64 (by omega) (by omega)
  have hek:=hee k
  (repeat((conv=>whnf);refine aig ?_))<;>try(conv=>whnf)
  refine ⟨((p.rows ++ R).getD k rowZ,K),⟨⟨hek,b4⟩,And.intro (row_fit _ (Nat.le_refl K)) True.intro⟩,?_⟩
  (repeat((conv=>whnf);refine aig ?_))<;>try(conv=>whnf)
  refine ⟨k + 1,(show k + 1≤p.rows.length + R.length by omega),(show p.rows.length + R.length - (k + 1) < p.rows.length + R.length - k by omega),?_⟩
  conv=>whnf
  all_goals(repeat' first|exact ayg|apply And.intro|exact azg|fail)
  exact rowF_up _ _ _ _
 have h6:¬ (k:Int) < ((IntKind.i64.wrap ((p.rows.length:Int) + (R.length:Int))).toNat:Int):=of_decide_eq_false h5
 obtain rfl:k = p.rows.length + R.length:=by omega
 (repeat((conv=>whnf);refine aig ?_))<;>try(conv=>whnf)
 all_goals(repeat' first|exact ayg|apply And.intro|exact azg|fail)
 all_goals first | exact fun _ _=>col_fit _ (Nat.le_refl K) | exact fun _ _=>row_fit _ (Nat.le_refl K) | exact hl.symm | (trace_state;sorry)
noncomputable def lapp_s:PSpec Tryz.prog:=⟨39,ghSpec ((Prg × List LRow) × Nat) (fun | ((c0,c1),c2)=>[prgAv c0 c2,rowsAv c1 c2]) (fun | ((c0,c1),c2)=>PB c0 c2∧c1.length≤1048576∧(∀ i,(c1.getD i rowZ).es.length≤1048576)) (fun | ((c0,c1),c2)=>prgAv ⟨c0.cols,c0.rows ++ c1⟩ c2),ghSpec_ok (fn:=Tryz.f39) (ctx_ok TT_ok [ccol_s,crow_s]) mixed_ok (by kernel_rfl) (fun | ((c0,c1),c2),hp=>lapp_x c0 c1 c2 hp.1 hp.2.1 hp.2.2),by kernel_rfl⟩
end Go.Proofs.YtfgkecffpkdjcaaGreat
