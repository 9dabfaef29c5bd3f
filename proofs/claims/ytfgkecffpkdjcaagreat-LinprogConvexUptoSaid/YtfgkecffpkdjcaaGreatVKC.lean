/- LinprogConvex by the executor. -/
import Derived.Test.YtfgkecffpkdjcaaGreatVKA
namespace Go.Proofs.YtfgkecffpkdjcaaGreat
open Go.RowKit Gm Go.Vx
def cvF (w:Rat) (a b:Nat→Rat) (j:Nat):Rat:=w * a j + (mkRat 1 1 + -w) * b j
theorem cv_sz {w:Rat} {a b:Nat→Rat} {j:Nat} (hw:Sz w 5) (ha:Sz (a j) 2) (hb:Sz (b j) 2):Sz (cvF w a b j) 27:=
 (sz_add2 (sz_mul2 hw ha) (sz_mul2 (sz_add2 (sz01.2) (sz_neg1 hw)) hb)).mono (by decide)
theorem cv_comb (n:Nat) (w:Rat) (a b:Nat→Rat):Comb n w (1 - w) ((List.range n).map a) ((List.range n).map b) ((List.range n).map (cvF w a b)):=⟨fun j hj=>by
 rw [rg_map hj,rg_map hj,rg_map hj]
 unfold cvF
 rw [show mkRat 1 1 = 1 from rfl,← Rat.sub_eq_add_neg]⟩
theorem min_le (u v:Rat):minQ u v≤u∧minQ u v≤v:=by
 unfold minQ
 have h:=@cmpR_gt u v
 split
 ·rename_i h1;exact ⟨Rat.le_refl,Rat.not_lt.1 fun h2=>by have:=h.2 h2;omega⟩
 ·rename_i h1;exact ⟨Rat.le_of_lt (h.1 (by omega)),Rat.le_refl⟩
theorem le_max (u v:Rat):u≤maxQ u v∧v≤maxQ u v:=by
 unfold maxQ
 have h:=@cmpR_lt u v
 split
 ·rename_i h1;exact ⟨Rat.le_refl,Rat.not_lt.1 fun h2=>by have:=h.2 h2;omega⟩
 ·rename_i h1;exact ⟨Rat.le_of_lt (h.1 (by omega)),Rat.le_refl⟩
theorem wt01 {z:Int} (h0:0≤z) (h8:z≤8):0≤mkRat z 8∧mkRat z 8≤1:=by
 have h:z = 0∨z = 1∨z = 2∨z = 3∨z = 4∨z = 5∨z = 6∨z = 7∨z = 8:=by omega
 rcases h with h | h | h | h | h | h | h | h | h <;> subst h <;> exact ⟨by decide +kernel,by decide +kernel⟩
set_option maxHeartbeats 2000000 in
set_option smartUnfolding false in
set_option maxRecDepth 100000 in
theorem cv11_x (F G H:Nat→Int) (n m k:Nat) (z:Int) (hn:n≤1048576) (hm:m≤1048576) (hk:k≤1048576) (hz:0≤z∧z≤255):fnOk ⟨TT,specsOf [gprg_s,tnew_s,trats_s,rROf_s,rRMul_s,rRFromInt_s,rRSub_s,rRAdd_s,lobj_s,aw11_s,rRMin_s,rRMax_s,rRCmp_s,lfea_s]⟩ Tryz.f3 [tA F n,tA G m,tA H k,.val (.int .u8 z)] (.val (.bool true)):=by
 obtain ⟨q,hq⟩:∃ q,q = gPrg F n 0 4 4:=⟨_,rfl⟩
 obtain ⟨w,hw⟩:∃ w,w = mkRat (z.tmod 9) 8:=⟨_,rfl⟩
 have q1:=hq ▸ gp_bd F n
 have hv:Vld q:=hq ▸ gp_vld F n
 have hb:PB q 27:=hq ▸ pb_prg4 F n 0 (by decide)
 have hwt:Wt (prgN q) 100:=hq ▸ wt_prg4 F n 0
 (repeat((conv=>whnf);refine aig ?_))<;>try(conv=>whnf)
 refine ⟨((F,n),q),⟨⟨hn,hq⟩,And.intro (tA_fit F n) True.intro⟩,?_⟩
 (repeat((conv=>whnf);refine aig ?_))<;>try(conv=>whnf)
 refine And.intro ⟨rfl,hm,fun _ _=>rfl⟩ ?_
 (repeat((conv=>whnf);refine aig ?_))<;>try(conv=>whnf)
 refine And.intro ⟨rfl,Int.natCast_nonneg 0,Nat.zero_le _,hm,fun _ _=>rfl,rfl,Int.natCast_nonneg _,by show (q.cols.length:Int)≤1048576;omega⟩ ?_
 (repeat((conv=>whnf);refine aig ?_))<;>try(conv=>whnf)
 refine And.intro ⟨rfl,hk,fun _ _=>rfl⟩ ?_
 (repeat((conv=>whnf);refine aig ?_))<;>try(conv=>whnf)
 refine And.intro ⟨rfl,Int.natCast_nonneg 0,Nat.zero_le _,hk,fun _ _=>rfl,rfl,Int.natCast_nonneg _,by show (q.cols.length:Int)≤1048576;omega⟩ ?_
 (repeat((conv=>whnf);refine aig ?_))<;>try(conv=>whnf)
 have z0:IntKind.i64.wrap (z.tmod 9) = z.tmod 9:=w64 (by have:=Int.tmod_nonneg 9 hz.1;omega) (by have:=Int.tmod_lt_of_pos z (show (0:Int) < 9 by decide);omega)
 have z1:0≤z.tmod 9∧z.tmod 9≤8:=⟨Int.tmod_nonneg 9 hz.1,by have:=Int.tmod_lt_of_pos z (show (0:Int) < 9 by decide);omega⟩
 have z2:-9223372036854775808≤IntKind.i64.wrap (z.tmod 9)∧IntKind.i64.wrap (z.tmod 9)≤9223372036854775807∧(1:Int)≤8∧(8:Int)≤9223372036854775807:=by rw [z0];omega
 have hwe:mkRat (IntKind.i64.wrap (z.tmod 9)) (8:Int).toNat = w:=by rw [z0,hw];rfl
 have hw01:0≤w∧w≤1:=hw ▸ wt01 z1.1 z1.2
 have hwz:Sz w 5:=by rw [hw];exact sz_mk (szi_nat (n:=(z.tmod 9)) (by omega)) (szi_nat (n:=((8:Nat):Int)) (by decide))
 refine And.intro z2 ?_
 (repeat((conv=>whnf);refine aig ?_))<;>try(conv=>whnf)
 refine ⟨⟨Nat,fun j=>j≤q.cols.length,fun j=>[.slot 14 (.val (.int .i64 (j:Int))),.own 13 36 3 j (madeC (cvF w (tRsV G m 0) (tRsV H k 0)) 27),.slot 13 (.row 13)],fun j=>q.cols.length - j,0⟩,0,Nat.zero_le _,?_⟩
 conv=>whnf
 refine And.intro ?_ ?_
 ·all_goals(repeat' first|exact ayg|apply And.intro|exact azg|fail)
 conv=>whnf
 rintro j h2
 (repeat((conv=>whnf);refine aig ?_))<;>try(conv=>whnf)
 refine And.intro (fun h5=>?_) (fun h5=>?_)
 ·have h6:(j:Int) < q.cols.length:=of_decide_eq_true h5
  have w1:IntKind.i64.wrap ((j:Int) + 1) = (j:Int) + 1:=w64 (by omega) (by omega)
  have hi:0≤(j:Int)∧(j:Int) < (q.cols.length:Int):=⟨Int.natCast_nonneg _,h6⟩
  (repeat((conv=>whnf);refine aig ?_))<;>try(conv=>whnf)
  refine And.intro hi ?_
  (repeat((conv=>whnf);refine aig ?_))<;>try(conv=>whnf)
  refine And.intro hi ?_
  (repeat((conv=>whnf);refine aig ?_))<;>try(conv=>whnf)
  refine ⟨j + 1,(show j + 1≤q.cols.length by omega),(show q.cols.length - (j + 1) < q.cols.length - j by omega),?_⟩
  conv=>whnf
  all_goals(repeat' first|exact ayg|apply And.intro|exact azg|fail)
  exact made_app (f:=cvF w (tRsV G m 0) (tRsV H k 0)) (by rw [← hwe];rfl) (.inl (by omega))
 have h6:¬ (j:Int) < q.cols.length:=of_decide_eq_false h5
 obtain rfl:j = q.cols.length:=by omega
 obtain ⟨A,hA⟩:∃ A,A = (List.range q.cols.length).map (tRsV G m 0):=⟨_,rfl⟩
 obtain ⟨B,hB⟩:∃ B,B = (List.range q.cols.length).map (tRsV H k 0):=⟨_,rfl⟩
 obtain ⟨X,hX⟩:∃ X,X = (List.range q.cols.length).map (cvF w (tRsV G m 0) (tRsV H k 0)):=⟨_,rfl⟩
 have hsx:∀ i,Sz (cvF w (tRsV G m 0) (tRsV H k 0) i) 27:=fun i=>cv_sz hwz (sz_trs G m 0 i) (sz_trs H k 0 i)
 have wA:Wt (prgN q ++ A) 208:=hA ▸ (hwt.app (wt_fun q.cols.length (sz_trs G m 0))).mono (by omega)
 have wB:Wt (prgN q ++ B) 208:=hB ▸ (hwt.app (wt_fun q.cols.length (sz_trs H k 0))).mono (by omega)
 have wX:Wt (prgN q ++ X) 208:=hX ▸ (hwt.app (wt_fun q.cols.length hsx)).mono (by omega)
 have pA:PX q A 27 1251:=px_of hb wA (by decide)
 have pB:PX q B 27 1251:=px_of hb wB (by decide)
 have pX:PX q X 27 1251:=px_of hb wX (by decide)
 have nA:A.length = q.cols.length:=hA ▸ made_len _ _
 have nB:B.length = q.cols.length:=hB ▸ made_len _ _
 have nX:X.length = q.cols.length:=hX ▸ made_len _ _
 have eA:errC q A.length q.cols.length = 0:=errC_zero.2 ⟨hv,nA⟩
 have eB:errC q B.length q.cols.length = 0:=errC_zero.2 ⟨hv,nB⟩
 have eX:errC q X.length q.cols.length = 0:=errC_zero.2 ⟨hv,nX⟩
 have fA:fitC (rlAv A 27) (.cons (madeAv (tRsV G m 0) q.cols.length 5) .nil):=hA ▸ made_fit _ _ (by decide)
 have fB:fitC (rlAv B 27) (.cons (madeAv (tRsV H k 0) q.cols.length 5) .nil):=hB ▸ made_fit _ _ (by decide)
 have fX:fitC (rlAv X 27) (.cons (madeAv (cvF w (tRsV G m 0) (tRsV H k 0)) q.cols.length 27) .nil):=hX ▸ made_fit _ _ (by decide)
 have hc:Comb q.cols.length w (1 - w) A B X:=by rw [hA,hB,hX];exact cv_comb _ _ _ _
 have ho:obj q X = w * obj q A + (1 - w) * obj q B:=hc.obj
 have fq:fitC (prgAv q 27) (.cons (prgAv q 5) .nil):=prg_fit q (by decide)
 have c1:¬ obj q X < minQ (obj q A) (obj q B):=Rat.not_lt.2 (by rw [ho];exact le_conv hw01.1 hw01.2 (min_le _ _).1 (min_le _ _).2)
 have c2:¬ maxQ (obj q A) (obj q B) < obj q X:=Rat.not_lt.2 (by rw [ho];exact conv_le hw01.1 hw01.2 (le_max _ _).1 (le_max _ _).2)
 (repeat((conv=>whnf);refine aig ?_))<;>try(conv=>whnf)
 refine ⟨((((q,A),27),1251),true),⟨⟨pA,fun _=>eA,fun _=>rfl⟩,And.intro fq (And.intro fA True.intro)⟩,?_⟩
 (repeat((conv=>whnf);refine aig ?_))<;>try(conv=>whnf)
 refine ⟨((((q,B),27),1251),true),⟨⟨pB,fun _=>eB,fun _=>rfl⟩,And.intro fq (And.intro fB True.intro)⟩,?_⟩
 (repeat((conv=>whnf);refine aig ?_))<;>try(conv=>whnf)
 refine ⟨((((q,X),27),1251),true),⟨⟨pX,fun _=>eX,fun _=>rfl⟩,And.intro fq (And.intro fX True.intro)⟩,?_⟩
 (repeat((conv=>whnf);refine aig ?_))<;>try(conv=>whnf)
 refine And.intro (fun h=>absurd h (by decide)) (fun _=>?_)
 (repeat((conv=>whnf);refine aig ?_))<;>try(conv=>whnf)
 refine And.intro (fun h=>absurd (cmpR_lt.1 (of_decide_eq_true h)) c1) (fun _=>?_)
 (repeat((conv=>whnf);refine aig ?_))<;>try(conv=>whnf)
 refine And.intro (fun h=>absurd (cmpR_gt.1 (of_decide_eq_true h)) c2) (fun _=>?_)
 (repeat((conv=>whnf);refine aig ?_))<;>try(conv=>whnf)
 refine ⟨(((q,A),27),1251),⟨pA,And.intro fq (And.intro fA True.intro)⟩,?_⟩
 (repeat((conv=>whnf);refine aig ?_))<;>try(conv=>whnf)
 refine And.intro (fun h=>?_) (fun h7=>?_)
 ·(repeat((conv=>whnf);refine aig ?_))<;>try(conv=>whnf)
  all_goals(repeat' first|exact ayg|apply And.intro|exact azg|fail)
 have gA:Feas q A:=pbnf h7
 (repeat((conv=>whnf);refine aig ?_))<;>try(conv=>whnf)
 refine ⟨(((q,B),27),1251),⟨pB,And.intro fq (And.intro fB True.intro)⟩,?_⟩
 (repeat((conv=>whnf);refine aig ?_))<;>try(conv=>whnf)
 refine And.intro (fun h=>?_) (fun h8=>?_)
 ·(repeat((conv=>whnf);refine aig ?_))<;>try(conv=>whnf)
  all_goals(repeat' first|exact ayg|apply And.intro|exact azg|fail)
 have gB:Feas q B:=pbnf h8
 (repeat((conv=>whnf);refine aig ?_))<;>try(conv=>whnf)
 refine ⟨(((q,X),27),1251),⟨pX,And.intro fq (And.intro fX True.intro)⟩,?_⟩
 (repeat((conv=>whnf);refine aig ?_))<;>try(conv=>whnf)
 exact congrArg Value.bool (pb_t.2 (convex hw01.1 hw01.2 nX hc gA gB))
set_option maxRecDepth 100000 in
theorem cv11_walk {W:World} {v0 v1 v2 v3:Value} {ch:List Int} {on:List Int} {tw:List Int} {z:Int} (h0:Rob (fun _=>False) W (ilAv ch) [v0]) (h1:Rob (fun _=>False) W (ilAv on) [v1]) (h2:Rob (fun _=>False) W (ilAv tw) [v2]) (h3:Rob (fun _=>False) W (.val (.int .u8 z)) [v3]) (l1:ch.length≤1048576) (l2:on.length≤1048576) (l3:tw.length≤1048576) (hz:0≤z∧z≤255) :
  Calls Tryz.prog 3 #[v0,v1,v2,v3] W (RetB W true):=
 call_b (fn_ok (own:=fun _=>False) (ctx_ok TT_ok [gprg_s,tnew_s,trats_s,rROf_s,rRMul_s,rRFromInt_s,rRSub_s,rRAdd_s,lobj_s,aw11_s,rRMin_s,rRMax_s,rRCmp_s,lfea_s]) mixed_ok (fn:=Tryz.f3) (by kernel_rfl) (cv11_x (fun k=>ch.getD k 0) (fun k=>on.getD k 0) (fun k=>tw.getD k 0) ch.length on.length tw.length z l1 l2 l3 hz) (fun _ h=>h.elim) (.cons h0 (.cons h1 (.cons h2 (.cons h3 .nil)))))
end Go.Proofs.YtfgkecffpkdjcaaGreat
