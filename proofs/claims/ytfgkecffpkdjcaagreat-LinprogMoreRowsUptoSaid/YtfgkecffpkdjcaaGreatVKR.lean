/- LinprogMoreRows by the executor. -/
import Derived.Test.YtfgkecffpkdjcaaGreatVKA
import Derived.Test.YtfgkecffpkdjcaaGreatVAP
namespace Go.Proofs.YtfgkecffpkdjcaaGreat
open Go.RowKit Gm Go.Vx
theorem getD_l {P R:List LRow} {i:Nat} (h:i < P.length):(P ++ R).getD i rowZ = P.getD i rowZ:=by simp only [List.getD_eq_getElem?_getD,List.getElem?_append_left h]
theorem getD_r {P R:List LRow} (i:Nat):(P ++ R).getD (P.length + i) rowZ = R.getD i rowZ:=by simp only [List.getD_eq_getElem?_getD,List.getElem?_append_right (Nat.le_add_right _ _),Nat.add_sub_cancel_left]
theorem colZ_col (n j:Nat) (R:List LRow):(Prg.mk (List.replicate n colZ) R).col j = colZ:=by
 unfold Prg.col
 rw [List.getD_eq_getElem?_getD,List.getElem?_replicate]
 split <;> rfl
theorem colZ_out (v:Rat):¬ OutB colZ v:=by
 rintro (⟨h,_⟩ | ⟨h,_⟩) <;> cases h
theorem feas_more {p:Prg} {R:List LRow} {x:List Rat} (hR:p.rows.length + R.length≤16384):Feas ⟨p.cols,p.rows ++ R⟩ x↔Feas p x∧Feas ⟨List.replicate p.cols.length colZ,R⟩ x:=by
 constructor
 ·intro h
  have l1:∀ i,i < p.rows.length→(Prg.mk p.cols (p.rows ++ R)).row i = p.row i:=fun i hi=>getD_l hi
  have l2:∀ i,(Prg.mk p.cols (p.rows ++ R)).row (p.rows.length + i) = R.getD i rowZ:=fun i=>getD_r i
  refine ⟨⟨⟨h.v.c,by omega,h.v.cr,fun i hi=>?_⟩,h.n,h.c,fun i hi=>?_⟩,⟨⟨by rw [List.length_replicate];exact h.v.c,show R.length≤16384 by omega,fun j _=>?_,fun i hi=>?_⟩,by rw [List.length_replicate];exact h.n,fun j _=>?_,fun i hi=>?_⟩⟩
  ·have:=h.v.ro i (by simp only [List.length_append];omega)
   rw [l1 i hi] at this;exact this
  ·have:=h.r i (by simp only [List.length_append];omega)
   rw [l1 i hi] at this;exact this
  ·rw [colZ_col];rintro ⟨h,_⟩;cases h
  ·have:=h.v.ro (p.rows.length + i) (by simp only [List.length_append];exact Nat.add_lt_add_left hi _)
   rw [l2] at this;rw [List.length_replicate];exact this
  ·rw [colZ_col];exact colZ_out _
  ·have:=h.r (p.rows.length + i) (by simp only [List.length_append];exact Nat.add_lt_add_left hi _)
   rw [l2] at this;exact this
 ·rintro ⟨h,k⟩
  have key:∀ i,i < (p.rows ++ R).length→(i < p.rows.length∧(p.rows ++ R).getD i rowZ = p.row i)∨(i - p.rows.length < R.length∧(p.rows ++ R).getD i rowZ = R.getD (i - p.rows.length) rowZ):=fun i hi=>by
   by_cases hl:i < p.rows.length
   ·exact .inl ⟨hl,getD_l hl⟩
   ·refine .inr ⟨by simp only [List.length_append] at hi;omega,?_⟩
    have:=getD_r (P:=p.rows) (R:=R) (i - p.rows.length)
    rwa [show p.rows.length + (i - p.rows.length) = i by omega] at this
  refine ⟨⟨h.v.c,by simp only [List.length_append];exact hR,h.v.cr,fun i hi=>?_⟩,h.n,h.c,fun i hi=>?_⟩
  ·show RowOk ((p.rows ++ R).getD i rowZ) p.cols.length
   rcases key i hi with ⟨h1,e⟩ | ⟨h1,e⟩
   ·rw [e];exact h.v.ro i h1
   ·rw [e]
    have:=k.v.ro _ h1
    rw [List.length_replicate] at this;exact this
  ·show ¬ Broken ((p.rows ++ R).getD i rowZ) (act ((p.rows ++ R).getD i rowZ) x)
   rcases key i hi with ⟨h1,e⟩ | ⟨h1,e⟩
   ·rw [e];exact h.r i h1
   ·rw [e];exact k.r _ h1
theorem zcol_num (n:Nat):dProd ((List.replicate n colZ).flatMap colN) = 1∧nProd ((List.replicate n colZ).flatMap colN) = 1:=by
 induction n with
 | zero=>exact ⟨rfl,rfl⟩
 | succ n ih=>
   rw [List.replicate_succ,List.flatMap_cons,dProd_app,nProd_app,ih.1,ih.2]
   exact ⟨rfl,rfl⟩
theorem wt_zcol (n:Nat):Wt ((List.replicate n colZ).flatMap colN) 0:=⟨by rw [(zcol_num n).1];exact Nat.le_refl 1,by rw [(zcol_num n).2];exact Nat.le_refl 1⟩
theorem wt_more {p:Prg} {R:List LRow} {a b:Nat} (h:Wt (prgN p) a) (hR:Wt (R.flatMap rowN) b):Wt (prgN ⟨p.cols,p.rows ++ R⟩) (a + b):=by
 have e:prgN ⟨p.cols,p.rows ++ R⟩ = prgN p ++ R.flatMap rowN:=by
  unfold prgN
  simp only [List.flatMap_append,List.append_assoc]
 rw [e];exact h.app hR
theorem wt_only (n:Nat) {R:List LRow} {b:Nat} (hR:Wt (R.flatMap rowN) b):Wt (prgN ⟨List.replicate n colZ,R⟩) b:=by
 have:=(wt_zcol n).app hR
 rw [Nat.zero_add] at this;exact this
theorem wt_row2 {r1 r2:LRow} {a b:Nat} (h1:Wt (rowN r1) a) (h2:Wt (rowN r2) b):Wt ([r1,r2].flatMap rowN) (a + b):=by
 simp only [List.flatMap_cons,List.flatMap_nil,List.append_nil];exact h1.app h2
theorem colZ_fit (n i:Nat):fitC (colC ((List.replicate n colZ).getD i colZ) 5) (.cons (.kb false) (.cons (.val (.slice none 0 0)) (.cons (.val (.slice none 0 0)) (.cons (.kb false) (.cons (.kb false) (.cons (.val (.slice none 0 0)) (.cons (.val (.slice none 0 0)) (.cons (.kb false) (.cons (.kb false) (.cons (.val (.slice none 0 0)) (.cons (.val (.slice none 0 0)) .nil))))))))))):=by
 have e:(List.replicate n colZ).getD i colZ = colZ:=by
  rw [List.getD_eq_getElem?_getD,List.getElem?_replicate]
  split <;> rfl
 rw [e]
 exact And.intro (And.intro (by rfl) (by decide)) (And.intro rfl (And.intro (And.intro (by rfl) (by decide)) (And.intro rfl (And.intro (And.intro (by rfl) (by decide)) True.intro))))
set_option maxHeartbeats 2000000 in
set_option smartUnfolding false in
set_option maxRecDepth 100000 in
theorem mr11_x (F G H:Nat→Int) (n m k:Nat) (hn:n≤1048576) (hm:m≤1048576) (hk:k≤1048576):fnOk ⟨TT,specsOf [gprg_s,tnew_s,trow_s,trats_s,lapp_s,aw11_s,lfea_s]⟩ Tryz.f7 [tA F n,tA G m,tA H k] (.val (.bool true)):=by
 obtain ⟨q,hq⟩:∃ q,q = gPrg F n 0 4 4:=⟨_,rfl⟩
 have q1:=hq ▸ gp_bd F n
 have hb:PB q 5:=hq ▸ pb_prg4 F n 0 (by decide)
 have hw:Wt (prgN q) 100:=hq ▸ wt_prg4 F n 0
 have t1:gRow2 G m 0 q.cols.length≤m:=gRow2_le (Nat.zero_le m)
 have e1:=gRow_len G m 0 q.cols.length
 have e2:=gRow_len G m (gRow2 G m 0 q.cols.length) q.cols.length
 have hR:∀ i,([(gRow G m 0 q.cols.length),(gRow G m (gRow2 G m 0 q.cols.length) q.cols.length)].getD i rowZ).es.length≤1048576:=fun i=>match i with | 0=>Nat.le_trans e1 (by omega) | 1=>Nat.le_trans e2 (by omega) | i + 2=>Nat.zero_le _
 have wR:Wt ([(gRow G m 0 q.cols.length),(gRow G m (gRow2 G m 0 q.cols.length) q.cols.length)].flatMap rowN) 20:=(wt_row2 (wt_row G m 0 q.cols.length) (wt_row G m (gRow2 G m 0 q.cols.length) q.cols.length)).mono (by omega)
 have wX:Wt ((List.range q.cols.length).map (tRsV H k 0)) 8:=(wt_fun q.cols.length (sz_trs H k 0)).mono (by omega)
 have hbA:PB ⟨q.cols,q.rows ++ [(gRow G m 0 q.cols.length),(gRow G m (gRow2 G m 0 q.cols.length) q.cols.length)]⟩ 5:=⟨hb.c,by simp only [List.length_append,List.length_cons,List.length_nil];omega,fun i=>by
  show ((q.rows ++ [(gRow G m 0 q.cols.length),(gRow G m (gRow2 G m 0 q.cols.length) q.cols.length)]).getD i rowZ).es.length≤1048576
  by_cases hi:i < q.rows.length
  ·rw [getD_l hi];exact hb.e i
  ·have:=getD_r (P:=q.rows) (R:=[(gRow G m 0 q.cols.length),(gRow G m (gRow2 G m 0 q.cols.length) q.cols.length)]) (i - q.rows.length)
   rw [show q.rows.length + (i - q.rows.length) = i by omega] at this
   rw [this];exact hR _,by decide⟩
 have hbO:PB ⟨List.replicate q.cols.length colZ,[(gRow G m 0 q.cols.length),(gRow G m (gRow2 G m 0 q.cols.length) q.cols.length)]⟩ 5:=⟨by rw [List.length_replicate];omega,by simp,hR,by decide⟩
 have hbN:PB ⟨List.replicate q.cols.length colZ,[]⟩ 5:=⟨by rw [List.length_replicate];omega,by simp,fun _=>Nat.zero_le _,by decide⟩
 have pQ:PX q ((List.range q.cols.length).map (tRsV H k 0)) 5 771:=px_of hb ((hw.app wX).mono (show 100 + 8≤128 by decide)) (by decide)
 have pA:PX ⟨q.cols,q.rows ++ [(gRow G m 0 q.cols.length),(gRow G m (gRow2 G m 0 q.cols.length) q.cols.length)]⟩ ((List.range q.cols.length).map (tRsV H k 0)) 5 771:=px_of hbA (((wt_more hw wR).app wX).mono (show 100 + 20 + 8≤128 by decide)) (by decide)
 have pO:PX ⟨List.replicate q.cols.length colZ,[(gRow G m 0 q.cols.length),(gRow G m (gRow2 G m 0 q.cols.length) q.cols.length)]⟩ ((List.range q.cols.length).map (tRsV H k 0)) 5 771:=px_of hbO (((wt_only _ wR).app wX).mono (show 20 + 8≤128 by decide)) (by decide)
 have law:=feas_more (p:=q) (R:=[(gRow G m 0 q.cols.length),(gRow G m (gRow2 G m 0 q.cols.length) q.cols.length)]) (x:=((List.range q.cols.length).map (tRsV H k 0))) (by simp only [List.length_cons,List.length_nil];omega)
 (repeat((conv=>whnf);refine aig ?_))<;>try(conv=>whnf)
 refine ⟨((F,n),q),⟨⟨hn,hq⟩,And.intro (tA_fit F n) True.intro⟩,?_⟩
 (repeat((conv=>whnf);refine aig ?_))<;>try(conv=>whnf)
 refine And.intro ⟨rfl,hm,fun _ _=>rfl⟩ ?_
 (repeat((conv=>whnf);refine aig ?_))<;>try(conv=>whnf)
 refine And.intro ⟨rfl,Int.natCast_nonneg _,Nat.zero_le _,hm,fun _ _=>rfl,rfl,Int.natCast_nonneg _,by show (q.cols.length:Int)≤1048576;omega⟩ ?_
 (repeat((conv=>whnf);refine aig ?_))<;>try(conv=>whnf)
 refine And.intro ⟨rfl,Int.natCast_nonneg _,t1,hm,fun _ _=>rfl,rfl,Int.natCast_nonneg _,by show (q.cols.length:Int)≤1048576;omega⟩ ?_
 (repeat((conv=>whnf);refine aig ?_))<;>try(conv=>whnf)
 refine And.intro ⟨rfl,hk,fun _ _=>rfl⟩ ?_
 (repeat((conv=>whnf);refine aig ?_))<;>try(conv=>whnf)
 refine And.intro ⟨rfl,Int.natCast_nonneg _,Nat.zero_le _,hk,fun _ _=>rfl,rfl,Int.natCast_nonneg _,by show (q.cols.length:Int)≤1048576;omega⟩ ?_
 (repeat((conv=>whnf);refine aig ?_))<;>try(conv=>whnf)
 refine ⟨((⟨List.replicate q.cols.length colZ,[]⟩,[(gRow G m 0 q.cols.length),(gRow G m (gRow2 G m 0 q.cols.length) q.cols.length)]),5),⟨⟨hbN,Nat.le_of_ble_eq_true rfl,hR⟩,And.intro (And.intro (And.intro rfl (And.intro (by simp) fun i _=>colZ_fit _ i)) (And.intro rfl True.intro)) (And.intro (And.intro rfl (And.intro rfl fun i hi=>match i,hi with | 0,_=>row_fit (gRow G m 0 q.cols.length) (Nat.le_refl 5) | 1,_=>row_fit (gRow G m (gRow2 G m 0 q.cols.length) q.cols.length) (Nat.le_refl 5) | i + 2,hi=>absurd hi (by show ¬ i + 2 < 2;omega))) True.intro)⟩,?_⟩
 (repeat((conv=>whnf);refine aig ?_))<;>try(conv=>whnf)
 refine ⟨((q,[(gRow G m 0 q.cols.length),(gRow G m (gRow2 G m 0 q.cols.length) q.cols.length)]),5),⟨⟨hb,Nat.le_of_ble_eq_true rfl,hR⟩,And.intro (prg_fit q (Nat.le_refl 5)) (And.intro (And.intro rfl (And.intro rfl fun i hi=>match i,hi with | 0,_=>row_fit (gRow G m 0 q.cols.length) (Nat.le_refl 5) | 1,_=>row_fit (gRow G m (gRow2 G m 0 q.cols.length) q.cols.length) (Nat.le_refl 5) | i + 2,hi=>absurd hi (by show ¬ i + 2 < 2;omega))) True.intro)⟩,?_⟩
 (repeat((conv=>whnf);refine aig ?_))<;>try(conv=>whnf)
 refine ⟨(((⟨q.cols,q.rows ++ [(gRow G m 0 q.cols.length),(gRow G m (gRow2 G m 0 q.cols.length) q.cols.length)]⟩,((List.range q.cols.length).map (tRsV H k 0))),5),771),⟨pA,And.intro (prg_fit _ (Nat.le_refl 5)) (And.intro (made_fit _ _ (Nat.le_refl 5)) True.intro)⟩,?_⟩
 (repeat((conv=>whnf);refine aig ?_))<;>try(conv=>whnf)
 refine ⟨(((q,((List.range q.cols.length).map (tRsV H k 0))),5),771),⟨pQ,And.intro (prg_fit q (Nat.le_refl 5)) (And.intro (made_fit _ _ (Nat.le_refl 5)) True.intro)⟩,?_⟩
 (repeat((conv=>whnf);refine aig ?_))<;>try(conv=>whnf)
 refine And.intro (fun h1=>?_) (fun h1=>?_)
 ·(repeat((conv=>whnf);refine aig ?_))<;>try(conv=>whnf)
  refine ⟨(((⟨List.replicate q.cols.length colZ,[(gRow G m 0 q.cols.length),(gRow G m (gRow2 G m 0 q.cols.length) q.cols.length)]⟩,((List.range q.cols.length).map (tRsV H k 0))),5),771),⟨pO,And.intro (prg_fit _ (Nat.le_refl 5)) (And.intro (made_fit _ _ (Nat.le_refl 5)) True.intro)⟩,?_⟩
  (repeat((conv=>whnf);refine aig ?_))<;>try(conv=>whnf)
  exact congrArg Value.bool (beq_iff_eq.2 (pb_congr ⟨fun h=>(law.1 h).2,fun h=>law.2 ⟨pb_t.1 h1,h⟩⟩))
 ·(repeat((conv=>whnf);refine aig ?_))<;>try(conv=>whnf)
  exact congrArg Value.bool (beq_iff_eq.2 (pb_f.2 fun h=>pb_f.1 h1 (law.1 h).1))
set_option maxRecDepth 100000 in
theorem mr11_walk {W:World} {v0 v1 v2:Value} {ch:List Int} {ot:List Int} {pt:List Int} (h0:Rob (fun _=>False) W (ilAv ch) [v0]) (h1:Rob (fun _=>False) W (ilAv ot) [v1]) (h2:Rob (fun _=>False) W (ilAv pt) [v2]) (l1:ch.length≤1048576) (l2:ot.length≤1048576) (l3:pt.length≤1048576) :
  Calls Tryz.prog 7 #[v0,v1,v2] W (RetB W true):=
 call_b (fn_ok (own:=fun _=>False) (ctx_ok TT_ok [gprg_s,tnew_s,trow_s,trats_s,lapp_s,aw11_s,lfea_s]) mixed_ok (fn:=Tryz.f7) (by kernel_rfl) (mr11_x (fun k=>ch.getD k 0) (fun k=>ot.getD k 0) (fun k=>pt.getD k 0) ch.length ot.length pt.length l1 l2 l3) (fun _ h=>h.elim) (.cons h0 (.cons h1 (.cons h2 .nil))))
end Go.Proofs.YtfgkecffpkdjcaaGreat
