/- LinprogChanges by the executor. -/
import Derived.Test.YtfgkecffpkdjcaaGreatVKA
import Derived.Test.YtfgkecffpkdjcaaGreatVAQ
namespace Go.Proofs.YtfgkecffpkdjcaaGreat
open Go.RowKit Gm Go.Vx
theorem getD_l {P R:List LRow} {i:Nat} (h:i < P.length):(P ++ R).getD i rowZ = P.getD i rowZ:=by simp only [List.getD_eq_getElem?_getD,List.getElem?_append_left h]
theorem getD_r {P R:List LRow} (i:Nat):(P ++ R).getD (P.length + i) rowZ = R.getD i rowZ:=by simp only [List.getD_eq_getElem?_getD,List.getElem?_append_right (Nat.le_add_right _ _),Nat.add_sub_cancel_left]
theorem colsA_fit (l:List LCol) (K:Nat):fitC (colsAv l K) (.cons (colsAv l K) .nil):=And.intro rfl (And.intro rfl fun _ _=>col_fit _ (Nat.le_refl K))
theorem gEn_sz {F:Nat→Int} {n i:Nat}:∀ j,∀ e ∈ (gEn F n i j).1,Sz e.2 5
 | 0,e,h=>by simp [gEn] at h
 | j + 1,e,h=>by
   rw [gEn] at h
   split at h
   ·rcases List.mem_append.1 h with h | h
    ·exact gEn_sz j e h
    ·rw [List.mem_singleton.1 h];exact (sz_tnz F n _).mono (by decide)
   ·exact gEn_sz j e h
theorem gRow_EQ (F:Nat→Int) (n i:Nat) {m:Nat} (hm:m≤1048576):EQ (gRow F n i m).es 5:=by
 refine ⟨Nat.le_trans (gRow_len F n i m) hm,(gRow_ok F n i m).2.1,fun k=>?_,fun k hk=>((gRow_ok F n i m).2.2 k hk).2.2,by decide,by decide⟩
 unfold vlE
 by_cases hk:k < (gRow F n i m).es.length
 ·have e:(gRow F n i m).es.getD k (0,0) = (gRow F n i m).es[k]:=by simp [List.getD_eq_getElem?_getD,hk]
  rw [e];exact gEn_sz m _ (List.getElem_mem hk)
 ·have e:(gRow F n i m).es.getD k (0,0) = (0,0):=by rw [List.getD_eq_getElem?_getD,List.getElem?_eq_none (by omega)];rfl
  rw [e];exact sz01.1.mono (by decide)
theorem gPrg_EQ (F:Nat→Int) (n j:Nat) (hj:j < (gPrg F n 0 4 4).rows.length):EQ ((gPrg F n 0 4 4).rows.getD j rowZ).es 5:=by
 rw [gPrg_rows] at hj
 have e:=gPrg_row (F:=F) (n:=n) (i:=0) (c:=4) (r:=4) hj
 have h1:=gNc_le (F:=F) (n:=n) (i:=0) (c:=4) (by decide)
 show EQ ((gPrg F n 0 4 4).row j).es 5
 rw [e];exact gRow_EQ F n _ (by omega)
theorem app_fit {P R:List LRow} {K a n:Nat} {z x:Nat→Av} (ha:a = P.length) (hR:∀ i,i < R.length→fitC (rowC (R.getD i rowZ) K) (x i)) (hn:n = P.length + R.length):∀ i,i < n→fitC (rowC ((P ++ R).getD i rowZ) K) (if i < a then (if i < 0 then z i else rowC (P.getD (i - 0) rowZ) K) else x (i - a)):=fun i hi=>by
 subst ha hn
 by_cases h:i < P.length
 ·rw [if_pos h,if_neg (Nat.not_lt_zero i),getD_l h];exact row_fit _ (Nat.le_refl K)
 ·rw [if_neg h]
  have e:=getD_r (P:=P) (R:=R) (i - P.length)
  rw [show P.length + (i - P.length) = i by omega] at e
  rw [e];exact hR _ (by omega)
theorem setC2_fit {l:List LCol} {c:LCol} {K j:Nat} {cc:Av} {z:Nat→Av} (hc:fitC (colC c K) cc):∀ i,i < l.length→fitC (colC ((l.set j c).getD i colZ) K) (if i = j then cc else (if i < 0 then z i else colC (l.getD (i - 0) colZ) K)):=fun i hi=>by
 by_cases h:i = j
 ·subst h
  have e:(l.set i c).getD i colZ = c:=by simp [List.getD_eq_getElem?_getD,hi]
  rw [if_pos rfl,e];exact hc
 ·have e:(l.set j c).getD i colZ = l.getD i colZ:=by simp [List.getD_eq_getElem?_getD,Ne.symm h]
  rw [if_neg h,if_neg (Nat.not_lt_zero i),e];exact col_fit _ (Nat.le_refl K)
/-- a column whose bounds cross -/
def cX:LCol:=⟨0,true,mkRat 2 1,true,mkRat 1 1⟩
theorem cX_crossed:Crossed cX:=⟨rfl,rfl,by show mkRat 1 1 < mkRat 2 1;decide +kernel⟩
set_option maxHeartbeats 4000000 in
set_option smartUnfolding false in
set_option maxRecDepth 100000 in
theorem ch11_x (F G:Nat→Int) (n m:Nat) (z:Int) (hn:n≤1048576) (hm:m≤1048576):fnOk ⟨TT,specsOf [gprg_s,tnew_s,trow_s,tcol_s,next_s,mod_s,rRFromInt_s,lapp_s,ltig_s,wcr_s,aw11_s,cols11_s,rows11_s]⟩ Tryz.f8 [tA F n,tA G m,.val (.int .i64 z)] (.val (.bool true)):=by
 obtain ⟨q,hq⟩:∃ q,q = gPrg F n 0 4 4:=⟨_,rfl⟩
 have q1:=hq ▸ gp_bd F n
 have hb:PB q 5:=hq ▸ pb_prg4 F n 0 (by decide)
 have hv:Vld q:=hq ▸ gp_vld F n
 have hE:∀ i,i < q.rows.length→EQ (q.rows.getD i rowZ).es 5:=hq ▸ gPrg_EQ F n
 have t1:(gRow2 G m 0 q.cols.length)≤m:=gRow2_le (Nat.zero_le m)
 have t2:(gRow2 G m (gRow2 G m 0 q.cols.length) q.cols.length)≤m:=gRow2_le t1
 have t3:gCol3 G m (gRow2 G m (gRow2 G m 0 q.cols.length) q.cols.length)≤m:=gCol3_le t2
 have e1:=gRow_len G m 0 q.cols.length
 have e2:=gRow_len G m (gRow2 G m 0 q.cols.length) q.cols.length
 have hl1:q.cols.length≤1048576:=by omega
 have hl2:q.rows.length≤1048576:=by omega
 have hl3:(q.rows ++ [(gRow G m 0 q.cols.length),(gRow G m (gRow2 G m 0 q.cols.length) q.cols.length)]).length≤1048576:=by simp only [List.length_append,List.length_cons,List.length_nil];omega
 have hl4:0 + q.rows.length + 2 = (q.rows ++ [(gRow G m 0 q.cols.length),(gRow G m (gRow2 G m 0 q.cols.length) q.cols.length)]).length:=by simp only [List.length_append,List.length_cons,List.length_nil];omega
 have hR:∀ i,([(gRow G m 0 q.cols.length),(gRow G m (gRow2 G m 0 q.cols.length) q.cols.length)].getD i rowZ).es.length≤1048576:=fun i=>match i with | 0=>Nat.le_trans e1 (by omega) | 1=>Nat.le_trans e2 (by omega) | i + 2=>Nat.zero_le _
 have hE2:∀ i,i < (q.rows ++ [(gRow G m 0 q.cols.length),(gRow G m (gRow2 G m 0 q.cols.length) q.cols.length)]).length→EQ ((q.rows ++ [(gRow G m 0 q.cols.length),(gRow G m (gRow2 G m 0 q.cols.length) q.cols.length)]).getD i rowZ).es 5:=fun i hi=>by
  by_cases h:i < q.rows.length
  ·rw [getD_l h];exact hE i h
  ·have e:=getD_r (P:=q.rows) (R:=[(gRow G m 0 q.cols.length),(gRow G m (gRow2 G m 0 q.cols.length) q.cols.length)]) (i - q.rows.length)
   rw [show q.rows.length + (i - q.rows.length) = i by omega] at e
   rw [e]
   have h2:i - q.rows.length < 2:=by simp only [List.length_append,List.length_cons,List.length_nil] at hi;omega
   generalize i - q.rows.length = k at h2
   match k,h2 with
   | 0,_=>exact gRow_EQ G m 0 hl1
   | 1,_=>exact gRow_EQ G m (gRow2 G m 0 q.cols.length) hl1
 have w0:IntKind.i64.wrap ((q.cols.length:Int) + 2) = (q.cols.length:Int) + 2:=w64 (by omega) (by omega)
 have mb:=md_bd z (n:=IntKind.i64.wrap ((q.cols.length:Int) + 2)) (by omega)
 have w1:(IntKind.i64.wrap (md z (IntKind.i64.wrap ((q.cols.length:Int) + 2)) - 1)) = md z (IntKind.i64.wrap ((q.cols.length:Int) + 2)) - 1:=w64 (by omega) (by omega)
 have hJ:(IntKind.i64.wrap (md z (IntKind.i64.wrap ((q.cols.length:Int) + 2)) - 1)) < 0∨(q.cols.length:Int)≤(IntKind.i64.wrap (md z (IntKind.i64.wrap ((q.cols.length:Int) + 2)) - 1))∨(0≤(IntKind.i64.wrap (md z (IntKind.i64.wrap ((q.cols.length:Int) + 2)) - 1))∧(IntKind.i64.wrap (md z (IntKind.i64.wrap ((q.cols.length:Int) + 2)) - 1)) < q.cols.length):=by omega
 (repeat((conv=>whnf);refine aig ?_))<;>try(conv=>whnf)
 refine ⟨((F,n),q),⟨⟨hn,hq⟩,And.intro (tA_fit F n) True.intro⟩,?_⟩
 (repeat((conv=>whnf);refine aig ?_))<;>try(conv=>whnf)
 refine ⟨((F,n),q),⟨⟨hn,hq⟩,And.intro (tA_fit F n) True.intro⟩,?_⟩
 (repeat((conv=>whnf);refine aig ?_))<;>try(conv=>whnf)
 refine And.intro ⟨rfl,hm,fun _ _=>rfl⟩ ?_
 (repeat((conv=>whnf);refine aig ?_))<;>try(conv=>whnf)
 refine And.intro ⟨rfl,Int.natCast_nonneg _,Nat.zero_le _,hm,fun _ _=>rfl,rfl,Int.natCast_nonneg _,by show (q.cols.length:Int)≤1048576;omega⟩ ?_
 (repeat((conv=>whnf);refine aig ?_))<;>try(conv=>whnf)
 refine And.intro ⟨rfl,Int.natCast_nonneg _,t1,hm,fun _ _=>rfl,rfl,Int.natCast_nonneg _,by show (q.cols.length:Int)≤1048576;omega⟩ ?_
 (repeat((conv=>whnf);refine aig ?_))<;>try(conv=>whnf)
 refine And.intro ⟨rfl,Int.natCast_nonneg _,t2,hm,fun _ _=>rfl,rfl⟩ ?_
 (repeat((conv=>whnf);refine aig ?_))<;>try(conv=>whnf)
 refine And.intro ⟨rfl,Int.natCast_nonneg _,t3,hm,fun _ _=>rfl,rfl,by decide,by decide⟩ ?_
 (repeat((conv=>whnf);refine aig ?_))<;>try(conv=>whnf)
 refine And.intro (fun _=>?_) (fun _=>?_)
 ·(repeat((conv=>whnf);refine aig ?_))<;>try(conv=>whnf)
  rcases hJ with hA | hA | ⟨hA,hB⟩
  ·have f1:(IntKind.i64.wrap (md z (IntKind.i64.wrap ((q.cols.length:Int) + 2)) - 1)) < 0:=hA
   refine ⟨((q,[(gRow G m 0 q.cols.length),(gRow G m (gRow2 G m 0 q.cols.length) q.cols.length)]),5),⟨⟨hb,Nat.le_of_ble_eq_true rfl,hR⟩,And.intro (prg_fit q (Nat.le_refl 5)) (And.intro (And.intro rfl (And.intro rfl fun i hi=>match i,hi with | 0,_=>row_fit (gRow G m 0 q.cols.length) (Nat.le_refl 5) | 1,_=>row_fit (gRow G m (gRow2 G m 0 q.cols.length) q.cols.length) (Nat.le_refl 5) | i + 2,hi=>absurd hi (by show ¬ i + 2 < 2;omega))) True.intro)⟩,?_⟩
   (repeat((conv=>whnf);refine aig ?_))<;>try(conv=>whnf)
   refine ⟨(((((q,(IntKind.i64.wrap (md z (IntKind.i64.wrap ((q.cols.length:Int) + 2)) - 1))),cX),5),12),⟨[],[]⟩),⟨⟨hb,hv,.inl ⟨.inl hA,rfl,rfl⟩⟩,And.intro (prg_fit q (Nat.le_refl 5)) (And.intro rfl (And.intro (And.intro (And.intro (by rfl) (by decide)) (And.intro rfl (And.intro (And.intro rfl (.inl (Nat.le_refl 5))) (And.intro rfl (And.intro (And.intro rfl (.inl (Nat.le_refl 5))) True.intro))))) True.intro))⟩,?_⟩
   (repeat' (first | (refine And.intro (fun h=>?_) (fun _=>?_);focus (exfalso;revert h;first | decide | (simp;done) | (simp [f1];done))) | (refine And.intro (fun _=>?_) (fun h=>?_);rotate_left;focus (exfalso;revert h;first | decide | (simp;done) | (simp [f1];done))) | ((conv=>whnf);refine aig ?_) | fail))<;>try (conv=>whnf)
   refine ⟨(q.cols,5),⟨⟨hl1,by decide⟩,And.intro (colsA_fit _ 5) (And.intro (colsA_fit _ 5) True.intro)⟩,?_⟩
   (repeat((conv=>whnf);refine aig ?_))<;>try(conv=>whnf)
   refine ⟨(q.rows,5),⟨⟨hl2,by decide,hE⟩,And.intro (rowsA_fit _ 5) (And.intro (rowsA_fit _ 5) True.intro)⟩,?_⟩
   (repeat((conv=>whnf);refine aig ?_))<;>try(conv=>whnf)
   refine ⟨(q.cols,5),⟨⟨hl1,by decide⟩,And.intro (colsA_fit _ 5) (And.intro (colsA_fit _ 5) True.intro)⟩,?_⟩
   (repeat((conv=>whnf);refine aig ?_))<;>try(conv=>whnf)
   refine ⟨(q.rows ++ [(gRow G m 0 q.cols.length),(gRow G m (gRow2 G m 0 q.cols.length) q.cols.length)],5),⟨⟨hl3,by decide,hE2⟩,And.intro (rowsA_fit _ 5) (And.intro (And.intro rfl (And.intro hl4 (app_fit (Nat.zero_add _) (fun i hi=>match i,hi with | 0,_=>row_fit (gRow G m 0 q.cols.length) (Nat.le_refl 5) | 1,_=>row_fit (gRow G m (gRow2 G m 0 q.cols.length) q.cols.length) (Nat.le_refl 5) | i + 2,hi=>absurd hi (by show ¬ i + 2 < 2;omega)) List.length_append))) True.intro)⟩,?_⟩
   (repeat((conv=>whnf);refine aig ?_))<;>try(conv=>whnf)
   (repeat' (first | (refine And.intro (fun h=>?_) (fun _=>?_);focus (exfalso;revert h;first | decide | (simp;done) | (simp [f1];done))) | (refine And.intro (fun _=>?_) (fun h=>?_);rotate_left;focus (exfalso;revert h;first | decide | (simp;done) | (simp [f1];done))) | ((conv=>whnf);refine aig ?_) | fail))<;>try (conv=>whnf)
   all_goals(repeat' first|exact ayg|apply And.intro|exact azg|fail)
  ·have f1:¬ (IntKind.i64.wrap (md z (IntKind.i64.wrap ((q.cols.length:Int) + 2)) - 1)) < 0:=by omega
   have f2:=hA
   refine ⟨((q,[(gRow G m 0 q.cols.length),(gRow G m (gRow2 G m 0 q.cols.length) q.cols.length)]),5),⟨⟨hb,Nat.le_of_ble_eq_true rfl,hR⟩,And.intro (prg_fit q (Nat.le_refl 5)) (And.intro (And.intro rfl (And.intro rfl fun i hi=>match i,hi with | 0,_=>row_fit (gRow G m 0 q.cols.length) (Nat.le_refl 5) | 1,_=>row_fit (gRow G m (gRow2 G m 0 q.cols.length) q.cols.length) (Nat.le_refl 5) | i + 2,hi=>absurd hi (by show ¬ i + 2 < 2;omega))) True.intro)⟩,?_⟩
   (repeat((conv=>whnf);refine aig ?_))<;>try(conv=>whnf)
   refine ⟨(((((q,(IntKind.i64.wrap (md z (IntKind.i64.wrap ((q.cols.length:Int) + 2)) - 1))),cX),5),12),⟨[],[]⟩),⟨⟨hb,hv,.inl ⟨.inr hA,rfl,rfl⟩⟩,And.intro (prg_fit q (Nat.le_refl 5)) (And.intro rfl (And.intro (And.intro (And.intro (by rfl) (by decide)) (And.intro rfl (And.intro (And.intro rfl (.inl (Nat.le_refl 5))) (And.intro rfl (And.intro (And.intro rfl (.inl (Nat.le_refl 5))) True.intro))))) True.intro))⟩,?_⟩
   (repeat' (first | (refine And.intro (fun h=>?_) (fun _=>?_);focus (exfalso;revert h;first | decide | (simp;done) | (simp [f1];done) | (simp [f2];done))) | (refine And.intro (fun _=>?_) (fun h=>?_);rotate_left;focus (exfalso;revert h;first | decide | (simp;done) | (simp [f1];done) | (simp [f2];done))) | ((conv=>whnf);refine aig ?_) | fail))<;>try (conv=>whnf)
   refine ⟨(q.cols,5),⟨⟨hl1,by decide⟩,And.intro (colsA_fit _ 5) (And.intro (colsA_fit _ 5) True.intro)⟩,?_⟩
   (repeat((conv=>whnf);refine aig ?_))<;>try(conv=>whnf)
   refine ⟨(q.rows,5),⟨⟨hl2,by decide,hE⟩,And.intro (rowsA_fit _ 5) (And.intro (rowsA_fit _ 5) True.intro)⟩,?_⟩
   (repeat((conv=>whnf);refine aig ?_))<;>try(conv=>whnf)
   refine ⟨(q.cols,5),⟨⟨hl1,by decide⟩,And.intro (colsA_fit _ 5) (And.intro (colsA_fit _ 5) True.intro)⟩,?_⟩
   (repeat((conv=>whnf);refine aig ?_))<;>try(conv=>whnf)
   refine ⟨(q.rows ++ [(gRow G m 0 q.cols.length),(gRow G m (gRow2 G m 0 q.cols.length) q.cols.length)],5),⟨⟨hl3,by decide,hE2⟩,And.intro (rowsA_fit _ 5) (And.intro (And.intro rfl (And.intro hl4 (app_fit (Nat.zero_add _) (fun i hi=>match i,hi with | 0,_=>row_fit (gRow G m 0 q.cols.length) (Nat.le_refl 5) | 1,_=>row_fit (gRow G m (gRow2 G m 0 q.cols.length) q.cols.length) (Nat.le_refl 5) | i + 2,hi=>absurd hi (by show ¬ i + 2 < 2;omega)) List.length_append))) True.intro)⟩,?_⟩
   (repeat((conv=>whnf);refine aig ?_))<;>try(conv=>whnf)
   (repeat' (first | (refine And.intro (fun h=>?_) (fun _=>?_);focus (exfalso;revert h;first | decide | (simp;done) | (simp [f1];done) | (simp [f2];done))) | (refine And.intro (fun _=>?_) (fun h=>?_);rotate_left;focus (exfalso;revert h;first | decide | (simp;done) | (simp [f1];done) | (simp [f2];done))) | ((conv=>whnf);refine aig ?_) | fail))<;>try (conv=>whnf)
   all_goals(repeat' first|exact ayg|apply And.intro|exact azg|fail)
  ·have f1:¬ (IntKind.i64.wrap (md z (IntKind.i64.wrap ((q.cols.length:Int) + 2)) - 1)) < 0:=by omega
   have f2:¬ (q.cols.length:Int)≤(IntKind.i64.wrap (md z (IntKind.i64.wrap ((q.cols.length:Int) + 2)) - 1)):=by omega
   have f3:=pb_t.2 cX_crossed
   refine ⟨((q,[(gRow G m 0 q.cols.length),(gRow G m (gRow2 G m 0 q.cols.length) q.cols.length)]),5),⟨⟨hb,Nat.le_of_ble_eq_true rfl,hR⟩,And.intro (prg_fit q (Nat.le_refl 5)) (And.intro (And.intro rfl (And.intro rfl fun i hi=>match i,hi with | 0,_=>row_fit (gRow G m 0 q.cols.length) (Nat.le_refl 5) | 1,_=>row_fit (gRow G m (gRow2 G m 0 q.cols.length) q.cols.length) (Nat.le_refl 5) | i + 2,hi=>absurd hi (by show ¬ i + 2 < 2;omega))) True.intro)⟩,?_⟩
   (repeat((conv=>whnf);refine aig ?_))<;>try(conv=>whnf)
   refine ⟨(((((q,(IntKind.i64.wrap (md z (IntKind.i64.wrap ((q.cols.length:Int) + 2)) - 1))),cX),5),3),⟨[],[]⟩),⟨⟨hb,hv,.inr (.inl ⟨hA,hB,cX_crossed,rfl,rfl⟩)⟩,And.intro (prg_fit q (Nat.le_refl 5)) (And.intro rfl (And.intro (And.intro (And.intro (by rfl) (by decide)) (And.intro rfl (And.intro (And.intro rfl (.inl (Nat.le_refl 5))) (And.intro rfl (And.intro (And.intro rfl (.inl (Nat.le_refl 5))) True.intro))))) True.intro))⟩,?_⟩
   (repeat' (first | (refine And.intro (fun h=>?_) (fun _=>?_);focus (exfalso;revert h;first | decide | (simp;done) | (simp [f1];done) | (simp [f2];done))) | (refine And.intro (fun _=>?_) (fun h=>?_);rotate_left;focus (exfalso;revert h;first | decide | (simp;done) | (simp [f1];done) | (simp [f2];done))) | ((conv=>whnf);refine aig ?_) | fail))<;>try (conv=>whnf)
   refine ⟨(cX,5),⟨Nat.le_of_ble_eq_true rfl,And.intro (And.intro (And.intro (by rfl) (by decide)) (And.intro rfl (And.intro (And.intro rfl (.inl (Nat.le_refl 5))) (And.intro rfl (And.intro (And.intro rfl (.inl (Nat.le_refl 5))) True.intro))))) True.intro⟩,?_⟩
   (repeat' (first | (refine And.intro (fun h=>?_) (fun _=>?_);focus (exfalso;revert h;first | decide | (simp;done) | (simp [f1];done) | (simp [f2];done) | (simp [f3];done))) | (refine And.intro (fun _=>?_) (fun h=>?_);rotate_left;focus (exfalso;revert h;first | decide | (simp;done) | (simp [f1];done) | (simp [f2];done) | (simp [f3];done))) | ((conv=>whnf);refine aig ?_) | fail))<;>try (conv=>whnf)
   refine ⟨(q.cols,5),⟨⟨hl1,by decide⟩,And.intro (colsA_fit _ 5) (And.intro (colsA_fit _ 5) True.intro)⟩,?_⟩
   (repeat((conv=>whnf);refine aig ?_))<;>try(conv=>whnf)
   refine ⟨(q.rows,5),⟨⟨hl2,by decide,hE⟩,And.intro (rowsA_fit _ 5) (And.intro (rowsA_fit _ 5) True.intro)⟩,?_⟩
   (repeat((conv=>whnf);refine aig ?_))<;>try(conv=>whnf)
   refine ⟨(q.cols,5),⟨⟨hl1,by decide⟩,And.intro (colsA_fit _ 5) (And.intro (colsA_fit _ 5) True.intro)⟩,?_⟩
   (repeat((conv=>whnf);refine aig ?_))<;>try(conv=>whnf)
   refine ⟨(q.rows ++ [(gRow G m 0 q.cols.length),(gRow G m (gRow2 G m 0 q.cols.length) q.cols.length)],5),⟨⟨hl3,by decide,hE2⟩,And.intro (rowsA_fit _ 5) (And.intro (And.intro rfl (And.intro hl4 (app_fit (Nat.zero_add _) (fun i hi=>match i,hi with | 0,_=>row_fit (gRow G m 0 q.cols.length) (Nat.le_refl 5) | 1,_=>row_fit (gRow G m (gRow2 G m 0 q.cols.length) q.cols.length) (Nat.le_refl 5) | i + 2,hi=>absurd hi (by show ¬ i + 2 < 2;omega)) List.length_append))) True.intro)⟩,?_⟩
   (repeat((conv=>whnf);refine aig ?_))<;>try(conv=>whnf)
   (repeat' (first | (refine And.intro (fun h=>?_) (fun _=>?_);focus (exfalso;revert h;first | decide | (simp;done) | (simp [f1];done) | (simp [f2];done) | (simp [f3];done))) | (refine And.intro (fun _=>?_) (fun h=>?_);rotate_left;focus (exfalso;revert h;first | decide | (simp;done) | (simp [f1];done) | (simp [f2];done) | (simp [f3];done))) | ((conv=>whnf);refine aig ?_) | fail))<;>try (conv=>whnf)
   all_goals(repeat' first|exact ayg|apply And.intro|exact azg|fail)
 ·(repeat((conv=>whnf);refine aig ?_))<;>try(conv=>whnf)
  rcases hJ with hA | hA | ⟨hA,hB⟩
  ·have f1:(IntKind.i64.wrap (md z (IntKind.i64.wrap ((q.cols.length:Int) + 2)) - 1)) < 0:=hA
   refine ⟨((q,[(gRow G m 0 q.cols.length),(gRow G m (gRow2 G m 0 q.cols.length) q.cols.length)]),5),⟨⟨hb,Nat.le_of_ble_eq_true rfl,hR⟩,And.intro (prg_fit q (Nat.le_refl 5)) (And.intro (And.intro rfl (And.intro rfl fun i hi=>match i,hi with | 0,_=>row_fit (gRow G m 0 q.cols.length) (Nat.le_refl 5) | 1,_=>row_fit (gRow G m (gRow2 G m 0 q.cols.length) q.cols.length) (Nat.le_refl 5) | i + 2,hi=>absurd hi (by show ¬ i + 2 < 2;omega))) True.intro)⟩,?_⟩
   (repeat((conv=>whnf);refine aig ?_))<;>try(conv=>whnf)
   refine ⟨(((((q,(IntKind.i64.wrap (md z (IntKind.i64.wrap ((q.cols.length:Int) + 2)) - 1))),(gCol G m (gRow2 G m (gRow2 G m 0 q.cols.length) q.cols.length))),5),12),⟨[],[]⟩),⟨⟨hb,hv,.inl ⟨.inl hA,rfl,rfl⟩⟩,And.intro (prg_fit q (Nat.le_refl 5)) (And.intro rfl (And.intro (col_fit _ (Nat.le_refl 5)) True.intro))⟩,?_⟩
   (repeat' (first | (refine And.intro (fun h=>?_) (fun _=>?_);focus (exfalso;revert h;first | decide | (simp;done) | (simp [f1];done))) | (refine And.intro (fun _=>?_) (fun h=>?_);rotate_left;focus (exfalso;revert h;first | decide | (simp;done) | (simp [f1];done))) | ((conv=>whnf);refine aig ?_) | fail))<;>try (conv=>whnf)
   refine ⟨(q.cols,5),⟨⟨hl1,by decide⟩,And.intro (colsA_fit _ 5) (And.intro (colsA_fit _ 5) True.intro)⟩,?_⟩
   (repeat((conv=>whnf);refine aig ?_))<;>try(conv=>whnf)
   refine ⟨(q.rows,5),⟨⟨hl2,by decide,hE⟩,And.intro (rowsA_fit _ 5) (And.intro (rowsA_fit _ 5) True.intro)⟩,?_⟩
   (repeat((conv=>whnf);refine aig ?_))<;>try(conv=>whnf)
   refine ⟨(q.cols,5),⟨⟨hl1,by decide⟩,And.intro (colsA_fit _ 5) (And.intro (colsA_fit _ 5) True.intro)⟩,?_⟩
   (repeat((conv=>whnf);refine aig ?_))<;>try(conv=>whnf)
   refine ⟨(q.rows ++ [(gRow G m 0 q.cols.length),(gRow G m (gRow2 G m 0 q.cols.length) q.cols.length)],5),⟨⟨hl3,by decide,hE2⟩,And.intro (rowsA_fit _ 5) (And.intro (And.intro rfl (And.intro hl4 (app_fit (Nat.zero_add _) (fun i hi=>match i,hi with | 0,_=>row_fit (gRow G m 0 q.cols.length) (Nat.le_refl 5) | 1,_=>row_fit (gRow G m (gRow2 G m 0 q.cols.length) q.cols.length) (Nat.le_refl 5) | i + 2,hi=>absurd hi (by show ¬ i + 2 < 2;omega)) List.length_append))) True.intro)⟩,?_⟩
   (repeat((conv=>whnf);refine aig ?_))<;>try(conv=>whnf)
   (repeat' (first | (refine And.intro (fun h=>?_) (fun _=>?_);focus (exfalso;revert h;first | decide | (simp;done) | (simp [f1];done))) | (refine And.intro (fun _=>?_) (fun h=>?_);rotate_left;focus (exfalso;revert h;first | decide | (simp;done) | (simp [f1];done))) | ((conv=>whnf);refine aig ?_) | fail))<;>try (conv=>whnf)
   all_goals(repeat' first|exact ayg|apply And.intro|exact azg|fail)
  ·have f1:¬ (IntKind.i64.wrap (md z (IntKind.i64.wrap ((q.cols.length:Int) + 2)) - 1)) < 0:=by omega
   have f2:=hA
   refine ⟨((q,[(gRow G m 0 q.cols.length),(gRow G m (gRow2 G m 0 q.cols.length) q.cols.length)]),5),⟨⟨hb,Nat.le_of_ble_eq_true rfl,hR⟩,And.intro (prg_fit q (Nat.le_refl 5)) (And.intro (And.intro rfl (And.intro rfl fun i hi=>match i,hi with | 0,_=>row_fit (gRow G m 0 q.cols.length) (Nat.le_refl 5) | 1,_=>row_fit (gRow G m (gRow2 G m 0 q.cols.length) q.cols.length) (Nat.le_refl 5) | i + 2,hi=>absurd hi (by show ¬ i + 2 < 2;omega))) True.intro)⟩,?_⟩
   (repeat((conv=>whnf);refine aig ?_))<;>try(conv=>whnf)
   refine ⟨(((((q,(IntKind.i64.wrap (md z (IntKind.i64.wrap ((q.cols.length:Int) + 2)) - 1))),(gCol G m (gRow2 G m (gRow2 G m 0 q.cols.length) q.cols.length))),5),12),⟨[],[]⟩),⟨⟨hb,hv,.inl ⟨.inr hA,rfl,rfl⟩⟩,And.intro (prg_fit q (Nat.le_refl 5)) (And.intro rfl (And.intro (col_fit _ (Nat.le_refl 5)) True.intro))⟩,?_⟩
   (repeat' (first | (refine And.intro (fun h=>?_) (fun _=>?_);focus (exfalso;revert h;first | decide | (simp;done) | (simp [f1];done) | (simp [f2];done))) | (refine And.intro (fun _=>?_) (fun h=>?_);rotate_left;focus (exfalso;revert h;first | decide | (simp;done) | (simp [f1];done) | (simp [f2];done))) | ((conv=>whnf);refine aig ?_) | fail))<;>try (conv=>whnf)
   refine ⟨(q.cols,5),⟨⟨hl1,by decide⟩,And.intro (colsA_fit _ 5) (And.intro (colsA_fit _ 5) True.intro)⟩,?_⟩
   (repeat((conv=>whnf);refine aig ?_))<;>try(conv=>whnf)
   refine ⟨(q.rows,5),⟨⟨hl2,by decide,hE⟩,And.intro (rowsA_fit _ 5) (And.intro (rowsA_fit _ 5) True.intro)⟩,?_⟩
   (repeat((conv=>whnf);refine aig ?_))<;>try(conv=>whnf)
   refine ⟨(q.cols,5),⟨⟨hl1,by decide⟩,And.intro (colsA_fit _ 5) (And.intro (colsA_fit _ 5) True.intro)⟩,?_⟩
   (repeat((conv=>whnf);refine aig ?_))<;>try(conv=>whnf)
   refine ⟨(q.rows ++ [(gRow G m 0 q.cols.length),(gRow G m (gRow2 G m 0 q.cols.length) q.cols.length)],5),⟨⟨hl3,by decide,hE2⟩,And.intro (rowsA_fit _ 5) (And.intro (And.intro rfl (And.intro hl4 (app_fit (Nat.zero_add _) (fun i hi=>match i,hi with | 0,_=>row_fit (gRow G m 0 q.cols.length) (Nat.le_refl 5) | 1,_=>row_fit (gRow G m (gRow2 G m 0 q.cols.length) q.cols.length) (Nat.le_refl 5) | i + 2,hi=>absurd hi (by show ¬ i + 2 < 2;omega)) List.length_append))) True.intro)⟩,?_⟩
   (repeat((conv=>whnf);refine aig ?_))<;>try(conv=>whnf)
   (repeat' (first | (refine And.intro (fun h=>?_) (fun _=>?_);focus (exfalso;revert h;first | decide | (simp;done) | (simp [f1];done) | (simp [f2];done))) | (refine And.intro (fun _=>?_) (fun h=>?_);rotate_left;focus (exfalso;revert h;first | decide | (simp;done) | (simp [f1];done) | (simp [f2];done))) | ((conv=>whnf);refine aig ?_) | fail))<;>try (conv=>whnf)
   all_goals(repeat' first|exact ayg|apply And.intro|exact azg|fail)
  ·have f1:¬ (IntKind.i64.wrap (md z (IntKind.i64.wrap ((q.cols.length:Int) + 2)) - 1)) < 0:=by omega
   have f2:¬ (q.cols.length:Int)≤(IntKind.i64.wrap (md z (IntKind.i64.wrap ((q.cols.length:Int) + 2)) - 1)):=by omega
   have f3:=pb_f.2 (gCol_ok G m (gRow2 G m (gRow2 G m 0 q.cols.length) q.cols.length))
   refine ⟨((q,[(gRow G m 0 q.cols.length),(gRow G m (gRow2 G m 0 q.cols.length) q.cols.length)]),5),⟨⟨hb,Nat.le_of_ble_eq_true rfl,hR⟩,And.intro (prg_fit q (Nat.le_refl 5)) (And.intro (And.intro rfl (And.intro rfl fun i hi=>match i,hi with | 0,_=>row_fit (gRow G m 0 q.cols.length) (Nat.le_refl 5) | 1,_=>row_fit (gRow G m (gRow2 G m 0 q.cols.length) q.cols.length) (Nat.le_refl 5) | i + 2,hi=>absurd hi (by show ¬ i + 2 < 2;omega))) True.intro)⟩,?_⟩
   (repeat((conv=>whnf);refine aig ?_))<;>try(conv=>whnf)
   refine ⟨(((((q,(IntKind.i64.wrap (md z (IntKind.i64.wrap ((q.cols.length:Int) + 2)) - 1))),(gCol G m (gRow2 G m (gRow2 G m 0 q.cols.length) q.cols.length))),5),0),⟨q.cols.set (IntKind.i64.wrap (md z (IntKind.i64.wrap ((q.cols.length:Int) + 2)) - 1)).toNat (gCol G m (gRow2 G m (gRow2 G m 0 q.cols.length) q.cols.length)),q.rows⟩),⟨⟨hb,hv,.inr (.inr ⟨hA,hB,gCol_ok _ _ _,rfl,rfl⟩)⟩,And.intro (prg_fit q (Nat.le_refl 5)) (And.intro rfl (And.intro (col_fit _ (Nat.le_refl 5)) True.intro))⟩,?_⟩
   (repeat' (first | (refine And.intro (fun h=>?_) (fun _=>?_);focus (exfalso;revert h;first | decide | (simp;done) | (simp [f1];done) | (simp [f2];done))) | (refine And.intro (fun _=>?_) (fun h=>?_);rotate_left;focus (exfalso;revert h;first | decide | (simp;done) | (simp [f1];done) | (simp [f2];done))) | ((conv=>whnf);refine aig ?_) | fail))<;>try (conv=>whnf)
   refine ⟨((gCol G m (gRow2 G m (gRow2 G m 0 q.cols.length) q.cols.length)),5),⟨Nat.le_of_ble_eq_true rfl,And.intro (col_fit _ (Nat.le_refl 5)) True.intro⟩,?_⟩
   (repeat' (first | (refine And.intro (fun h=>?_) (fun _=>?_);focus (exfalso;revert h;first | decide | (simp;done) | (simp [f1];done) | (simp [f2];done) | (simp [f3];done))) | (refine And.intro (fun _=>?_) (fun h=>?_);rotate_left;focus (exfalso;revert h;first | decide | (simp;done) | (simp [f1];done) | (simp [f2];done) | (simp [f3];done))) | ((conv=>whnf);refine aig ?_) | fail))<;>try (conv=>whnf)
   refine ⟨(q.cols,5),⟨⟨hl1,by decide⟩,And.intro (colsA_fit _ 5) (And.intro (colsA_fit _ 5) True.intro)⟩,?_⟩
   (repeat((conv=>whnf);refine aig ?_))<;>try(conv=>whnf)
   refine ⟨(q.rows,5),⟨⟨hl2,by decide,hE⟩,And.intro (rowsA_fit _ 5) (And.intro (rowsA_fit _ 5) True.intro)⟩,?_⟩
   (repeat((conv=>whnf);refine aig ?_))<;>try(conv=>whnf)
   refine ⟨(q.cols,5),⟨⟨hl1,by decide⟩,And.intro (colsA_fit _ 5) (And.intro (colsA_fit _ 5) True.intro)⟩,?_⟩
   (repeat((conv=>whnf);refine aig ?_))<;>try(conv=>whnf)
   refine ⟨(q.rows ++ [(gRow G m 0 q.cols.length),(gRow G m (gRow2 G m 0 q.cols.length) q.cols.length)],5),⟨⟨hl3,by decide,hE2⟩,And.intro (rowsA_fit _ 5) (And.intro (And.intro rfl (And.intro hl4 (app_fit (Nat.zero_add _) (fun i hi=>match i,hi with | 0,_=>row_fit (gRow G m 0 q.cols.length) (Nat.le_refl 5) | 1,_=>row_fit (gRow G m (gRow2 G m 0 q.cols.length) q.cols.length) (Nat.le_refl 5) | i + 2,hi=>absurd hi (by show ¬ i + 2 < 2;omega)) List.length_append))) True.intro)⟩,?_⟩
   (repeat((conv=>whnf);refine aig ?_))<;>try(conv=>whnf)
   (repeat' (first | (refine And.intro (fun h=>?_) (fun _=>?_);focus (exfalso;revert h;first | decide | (simp;done) | (simp [f1];done) | (simp [f2];done) | (simp [f3];done))) | (refine And.intro (fun _=>?_) (fun h=>?_);rotate_left;focus (exfalso;revert h;first | decide | (simp;done) | (simp [f1];done) | (simp [f2];done) | (simp [f3];done))) | ((conv=>whnf);refine aig ?_) | fail))<;>try (conv=>whnf)
   refine ⟨(q.cols.set (IntKind.i64.wrap (md z (IntKind.i64.wrap ((q.cols.length:Int) + 2)) - 1)).toNat (gCol G m (gRow2 G m (gRow2 G m 0 q.cols.length) q.cols.length)),5),⟨⟨by rw [List.length_set];exact hl1,by decide⟩,And.intro (colsA_fit _ 5) (And.intro (And.intro rfl (And.intro (by rw [List.length_set];exact Nat.zero_add _) fun i hi=>setC2_fit (col_fit _ (Nat.le_refl 5)) i (by simpa using hi))) True.intro)⟩,?_⟩
   (repeat((conv=>whnf);refine aig ?_))<;>try(conv=>whnf)
   refine ⟨(q.rows,5),⟨⟨hl2,by decide,hE⟩,And.intro (rowsA_fit _ 5) (And.intro (rowsA_fit _ 5) True.intro)⟩,?_⟩
   (repeat((conv=>whnf);refine aig ?_))<;>try(conv=>whnf)
   all_goals(repeat' first|exact ayg|apply And.intro|exact azg|fail)
set_option maxRecDepth 100000 in
theorem ch11_walk {W:World} {v0 v1 v2:Value} {ch:List Int} {ot:List Int} {z:Int} (h0:Rob (fun _=>False) W (ilAv ch) [v0]) (h1:Rob (fun _=>False) W (ilAv ot) [v1]) (h2:Rob (fun _=>False) W (.val (.int .i64 z)) [v2]) (l1:ch.length≤1048576) (l2:ot.length≤1048576) :
  Calls Tryz.prog 8 #[v0,v1,v2] W (RetB W true):=
 call_b (fn_ok (own:=fun _=>False) (ctx_ok TT_ok [gprg_s,tnew_s,trow_s,tcol_s,next_s,mod_s,rRFromInt_s,lapp_s,ltig_s,wcr_s,aw11_s,cols11_s,rows11_s]) mixed_ok (fn:=Tryz.f8) (by kernel_rfl) (ch11_x (fun k=>ch.getD k 0) (fun k=>ot.getD k 0) ch.length ot.length z l1 l2) (fun _ h=>h.elim) (.cons h0 (.cons h1 (.cons h2 .nil))))
end Go.Proofs.YtfgkecffpkdjcaaGreat
