/- References 05 (Below, Above) and 11 (Candidate, Shorten); CertifyShortens by the executor. -/
import Derived.Test.YtfgkecffpkdjcaaGreatVKA
import Derived.Test.YtfgkecffpkdjcaaGreatVM
import Derived.Test.YtfgkecffpkdjcaaGreatVJK
import Derived.Test.YtfgkecffpkdjcaaGreatVQ
namespace Go.Proofs.YtfgkecffpkdjcaaGreat
open Go.RowKit Gm Go.Vx
set_option maxRecDepth 100000
set_option smartUnfolding false in
theorem rRCeil_x (q:Rat) (K:Nat) (_hz:Sz q K) (hK:K≤1073741824):fnOk ⟨TT,specsOf [rRNeg_s,rRFloor_s,rINeg_s]⟩ Tryz.f121 [rAv q K] (zAv q.ceil K):=by
 have e:-(-q).floor = q.ceil:=(Rat.ceil_eq_neg_floor_neg q).symm
 (repeat((conv=>whnf);refine akg ?_))<;>try(conv=>whnf)
 all_goals(repeat' first|exact ayg|apply And.intro|exact azg|fail)
def rRCeil_s:PSpec Tryz.prog:=⟨121,spQ (fun _ K=>K≤1073741824) (fun q K=>zAv q.ceil K),spQ_fn (fn:=Tryz.f121) (ctx_ok TT_ok [rRNeg_s,rRFloor_s,rINeg_s]) mixed_ok (by kernel_rfl) (fun q K hz _ hK=>rRCeil_x q K hz hK),by kernel_rfl⟩
set_option smartUnfolding false in
theorem rWh_x (m:Int) (K:Nat) (hz:SzI m K) (hK:K≤1073741824):fnOk ⟨TT,specsOf [rIFromInt_s,rMake_s]⟩ Tryz.f122 [nAv m K] (qAv (m:Rat) (K + 3)):=by
 have e:mkRat m 1 = (m:Rat):=Rat.mkRat_one m
 have hs:Sz (mkRat m 1) (K + 3):=Sz.mono (sz_mk (d:=1) hz (szi_nat (n:=(1:Nat)) (by decide))) (by omega)
 (repeat((conv=>whnf);refine akg ?_))<;>try(conv=>whnf)
 refine ⟨((m:Rat),K + 3),⟨by omega,by omega,e,by rw [← e];exact hs⟩,?_⟩
 (repeat((conv=>whnf);refine akg ?_))<;>try(conv=>whnf)
 all_goals(repeat' first|exact ayg|apply And.intro|exact azg|fail)
def rWh_s:PSpec Tryz.prog:=⟨122,spZ (fun _ K=>K≤1073741824) (fun m K=>qAv (m:Rat) (K + 3)),spZ_fn (fn:=Tryz.f122) (ctx_ok TT_ok [rIFromInt_s,rMake_s]) mixed_ok (by kernel_rfl) (fun m K hz _ hK=>rWh_x m K hz hK),by kernel_rfl⟩
end Go.Proofs.YtfgkecffpkdjcaaGreat
namespace Go.Proofs.YtfgkecffpkdjcaaGreat
open Go.RowKit Gm Go.Vx
set_option maxRecDepth 100000
theorem fl_ge (a:Rat):-(a.num.natAbs:Int)≤a.floor:=by
 refine Rat.le_floor_iff.2 ?_
 rw [Rat.le_iff]
 show -(a.num.natAbs:Int) * (a.den:Int)≤a.num * 1
 have h1:=a.den_pos
 have h2:(a.num.natAbs:Int) * 1≤(a.num.natAbs:Int) * (a.den:Int):=Int.mul_le_mul_of_nonneg_left (by omega) (Int.natCast_nonneg _)
 rw [Int.neg_mul]
 generalize (a.num.natAbs:Int) * (a.den:Int) = z at *
 omega
theorem fl_sz {a v:Rat} {K:Nat} {D:Int} (hz:Sz a K) (h1:(a.floor:Rat)≤v) (h2:v≤a) (h3:(v.den:Int)≤D) (hD:D≤1048576):Sz v (K + 1):=by
 have hd:(limbs v.den).length≤1:=limbs_length_lt (by rw [Nat.pow_one,Ba_eq];omega)
 refine ⟨?_,by omega⟩
 have hu:v.num * (a.den:Int)≤a.num * (v.den:Int):=(Rat.le_iff _ _).1 h2
 have hl:a.floor * (v.den:Int)≤v.num * 1:=(Rat.le_iff _ _).1 h1
 have hf:=fl_ge a
 have hp:=a.den_pos
 have hq:=v.den_pos
 have k1:a.num * (v.den:Int)≤(a.num.natAbs:Int) * (v.den:Int):=Int.mul_le_mul_of_nonneg_right (by omega) (by omega)
 have k2:-(a.num.natAbs:Int) * (v.den:Int)≤a.floor * (v.den:Int):=Int.mul_le_mul_of_nonneg_right hf (by omega)
 rw [Int.neg_mul] at k2
 have k3:0≤v.num→v.num * 1≤v.num * (a.den:Int):=fun h=>Int.mul_le_mul_of_nonneg_left (by omega) h
 have k4:0≤(a.num.natAbs:Int) * (v.den:Int):=Int.mul_nonneg (by omega) (by omega)
 have k5:v.num.natAbs≤a.num.natAbs * v.den:=by
  have e:((a.num.natAbs * v.den:Nat):Int) = (a.num.natAbs:Int) * (v.den:Int):=Int.natCast_mul _ _
  generalize (a.num.natAbs:Int) * (v.den:Int) = z at *
  generalize a.num.natAbs * v.den = zz at *
  generalize a.num * (v.den:Int) = z2 at *
  generalize a.floor * (v.den:Int) = z3 at *
  generalize v.num * (a.den:Int) = z4 at *
  by_cases h:0≤v.num
  ·have:=k3 h;omega
  ·omega
 refine Nat.le_trans (limbs_mono k5) (Nat.le_trans (limbs_mul_le _ _) ?_)
 have:=hz.1
 omega
theorem bel_sz {a:Rat} {K:Nat} {D:Int} (hz:Sz a K) (h1:1≤D) (hD:D≤1048576):Sz (bel a D) (K + 1):=by
 have hb:=bel_ok a h1
 exact fl_sz hz (hb.2.2 _ (Rat.floor_le a) (by show ((1:Nat):Int)≤D;omega)) hb.1 hb.2.1 hD
theorem bel_one (a:Rat):(a.floor:Rat) = bel a 1:=by
 refine (bel_eq ⟨Rat.floor_le a,by simp,fun y hy hd=>?_⟩).symm
 have h1:y.den = 1:=by have:=y.den_pos;omega
 have h2:y = (y.num:Rat):=Rat.ext rfl (by rw [h1];rfl)
 rw [h2] at hy ⊢
 exact Rat.intCast_le_intCast.2 (Rat.le_floor_iff.2 hy)
theorem maxQ_cases (r s:Rat):(maxQ r s = r∧s≤r)∨(maxQ r s = s∧r≤s):=by
 unfold maxQ
 split
 ·rename_i h
  exact .inl ⟨rfl,Rat.not_lt.1 fun hh=>by have:=cmpR_lt.2 hh;omega⟩
 ·rename_i h
  refine .inr ⟨rfl,Rat.not_lt.1 fun hh=>?_⟩
  have:=cmpR_gt.2 hh;omega
theorem bel_y (a:Rat) {d:Int} (hd:1≤d):Rat.divInt (a * (d:Rat)).floor d≤a∧((Rat.divInt (a * (d:Rat)).floor d).den:Int)≤d∧(a.floor:Rat)≤Rat.divInt (a * (d:Rat)).floor d∧∀ z,z≤a→(z.den:Int) = d→z≤Rat.divInt (a * (d:Rat)).floor d:=by
 have hd0:(0:Rat) < (d:Rat):=Rat.intCast_pos.2 (by omega)
 have hfl:=Rat.floor_le (a * (d:Rat))
 generalize hn:(a * (d:Rat)).floor = n at hfl
 refine ⟨?_,dI_den_le (by omega),?_,?_⟩
 ·rw [Rat.divInt_eq_div]
  refine Rat.not_lt.1 fun h=>?_
  rw [Rat.lt_div_iff hd0] at h
  exact absurd h (Rat.not_lt.2 hfl)
 ·rw [Rat.divInt_eq_div]
  refine Rat.not_lt.1 fun h=>?_
  rw [Rat.div_lt_iff hd0,← Rat.intCast_mul,Rat.intCast_lt_intCast,← hn] at h
  have h5:((a.floor * d:Int):Rat)≤a * (d:Rat):=by
   rw [Rat.intCast_mul];exact Rat.mul_le_mul_of_nonneg_right (Rat.floor_le a) (Rat.le_of_lt hd0)
  have:=Rat.le_floor_iff.2 h5
  omega
 ·intro z hz hzd
  rw [Rat.divInt_eq_div]
  refine Rat.not_lt.1 fun h=>?_
  rw [Rat.div_lt_iff hd0] at h
  have e:=mul_den z
  rw [hzd] at e
  rw [e,Rat.intCast_lt_intCast,← hn] at h
  have h5:(z.num:Rat)≤a * (d:Rat):=by
   rw [← e];exact Rat.mul_le_mul_of_nonneg_right hz (Rat.le_of_lt hd0)
  have:=Rat.le_floor_iff.2 h5
  omega
theorem bel_step (a:Rat) (k:Nat):maxQ (bel a ((k:Int) + 1)) (Rat.divInt (a * (((k:Int) + 2:Int):Rat)).floor ((k:Int) + 2)) = bel a ((k:Int) + 2):=by
 have hb:=bel_ok a (M:=(k:Int) + 1) (by omega)
 have hy:=bel_y a (d:=(k:Int) + 2) (by omega)
 have hb1:=hb.2.1
 have hy1:=hy.2.1
 refine (bel_eq ?_).symm
 rcases maxQ_cases (bel a ((k:Int) + 1)) (Rat.divInt (a * (((k:Int) + 2:Int):Rat)).floor ((k:Int) + 2)) with ⟨e,hc⟩ | ⟨e,hc⟩
 ·rw [e]
  refine ⟨hb.1,by omega,fun z hz hzd=>?_⟩
  by_cases hzk:(z.den:Int) = (k:Int) + 2
  ·exact Rat.le_trans (hy.2.2.2 z hz hzk) hc
  ·exact hb.2.2 z hz (by omega)
 ·rw [e]
  refine ⟨hy.1,by omega,fun z hz hzd=>?_⟩
  by_cases hzk:(z.den:Int) = (k:Int) + 2
  ·exact hy.2.2.2 z hz hzk
  ·exact Rat.le_trans (hb.2.2 z hz (by omega)) hc
theorem bel_y_sz {a:Rat} {K:Nat} {d:Int} (hz:Sz a K) (hd:1≤d) (hD:d≤1048576):Sz (Rat.divInt (a * (d:Rat)).floor d) (K + 1):=by
 have hy:=bel_y a hd
 exact fl_sz hz hy.2.2.1 hy.1 hy.2.1 hD
theorem cand_self {q:Rat} {d:Int} (h:(q.den:Int)≤d):cand q d = q:=by
 unfold cand
 split
 ·exact bel_eq (below_self h).1
 ·split
  ·exact abv_eq (below_self h).2
  ·rename_i h1 h2;exact Rat.le_antisymm (Rat.not_lt.1 h2) (Rat.not_lt.1 h1)
theorem wid_le (y:List Rat) {j:Nat}:∀ n,j < n→(((rg y j).den:Int):Rat)≤wid y n
 | 0,h=>absurd h (Nat.not_lt_zero j)
 | n + 1,h=>by
   rcases maxQ_cases (wid y n) (((rg y n).den:Int):Rat) with ⟨e,hc⟩ | ⟨e,hc⟩
   ·show _≤maxQ _ _
    rw [e]
    rcases Nat.lt_or_ge j n with hj | hj
    ·exact wid_le y n hj
    ·obtain rfl:j = n:=by omega
     exact hc
   ·show _≤maxQ _ _
    rw [e]
    rcases Nat.lt_or_ge j n with hj | hj
    ·exact Rat.le_trans (wid_le y n hj) hc
    ·obtain rfl:j = n:=by omega
     exact Rat.le_refl
theorem limQ_cases (y:List Rat) (m:Int):limQ y m≤(m:Rat)∧(limQ y m = (m:Rat)∨limQ y m = wid y y.length):=by
 unfold limQ minQ
 split
 ·exact ⟨Rat.le_refl,.inl rfl⟩
 ·rename_i h
  refine ⟨Rat.not_lt.1 fun hh=>h ?_,.inr rfl⟩
  have:=cmpR_lt.2 hh;omega
theorem shL_hit {p:Prg} {y:List Rat} {v:Rat} {m:Int} {i:Nat} (h1:((2 ^ i:Nat):Int)≤m) (h2:AtL p (candL y (pw i).num) v) (h3:∀ j,j < i→¬ AtL p (candL y (pw j).num) v):∀ j,j < y.length→rg (shL p y v m) j = rg (candL y (pw i).num) j:=fun j hj=>by
 by_cases hl:pw i≤limQ y m
 ·rw [shL_found hl h2 h3]
 ·rw [shL_none hl h3,candL_rg]
  refine (cand_self ?_).symm
  have hw:=wid_le y y.length hj
  rcases (limQ_cases y m).2 with e | e
  ·rw [e] at hl
   exact absurd (Rat.intCast_le_intCast.2 h1) hl
  ·rw [e] at hl
   have h5:=Rat.le_trans hw (Rat.le_of_lt (Rat.not_le.1 hl))
   exact Rat.intCast_le_intCast.1 h5
theorem shL_miss {p:Prg} {y:List Rat} {v:Rat} {m:Int} {i:Nat} (h1:¬ ((2 ^ i:Nat):Int)≤m) (h3:∀ j,j < i→¬ AtL p (candL y (pw j).num) v):shL p y v m = y:=
 shL_none (fun h=>h1 (Rat.intCast_le_intCast.1 (Rat.le_trans h (limQ_cases y m).1))) h3
theorem sz_neg {q:Rat} {K:Nat} (h:Sz q K):Sz (-q) K:=by
 unfold Sz at *;rw [Rat.neg_num,Rat.neg_den,Int.natAbs_neg];exact h
theorem cand_posD {q:Rat} (d:Int) (h:decide (sgn q.num > 0) = true):bel q d = cand q d:=cand_pos d (by rw [sone];exact pb_t.2 (sgn_pos.1 (of_decide_eq_true h)))
theorem cand_negD {q:Rat} (d:Int) (h:decide (sgn q.num < 0) = true):abv q d = cand q d:=cand_neg d (by rw [smone];exact pb_t.2 (sgn_neg.1 (of_decide_eq_true h)))
theorem cand_nilD {q:Rat} (d:Int) (h:decide (sgn q.num > 0) = false) (h2:decide (sgn q.num < 0) = false):q = cand q d:=by
 have h3:¬ 0 < q:=fun hh=>of_decide_eq_false h (sgn_pos.2 hh)
 have h4:¬ q < 0:=fun hh=>of_decide_eq_false h2 (sgn_neg.2 hh)
 unfold cand;rw [if_neg h3,if_neg h4];exact Rat.le_antisymm (Rat.not_lt.1 h3) (Rat.not_lt.1 h4)
theorem same_refl (f:Nat→Rat) (n:Nat):SameL f n f n:=⟨rfl,fun _ _=>rfl⟩
def zB (G:Nat→Int) (m k:Nat):Rat:=mkRat (IntKind.i64.wrap (tNv G m (tRsI m 0 k) 400 - 200)) (IntKind.i64.wrap (1 + tNv G m (tNi m (tRsI m 0 k)) 90)).toNat
theorem zB_bd (G:Nat→Int) (m k:Nat):-9223372036854775808≤IntKind.i64.wrap (tNv G m (tRsI m 0 k) 400 - 200)∧IntKind.i64.wrap (tNv G m (tRsI m 0 k) 400 - 200)≤9223372036854775807∧1≤IntKind.i64.wrap (1 + tNv G m (tNi m (tRsI m 0 k)) 90)∧IntKind.i64.wrap (1 + tNv G m (tNi m (tRsI m 0 k)) 90)≤9223372036854775807:=by
 have b1:=tNv_bd G m (tRsI m 0 k) (m:=400) (by decide)
 have b2:=tNv_bd G m (tNi m (tRsI m 0 k)) (m:=90) (by decide)
 rw [w64 (by omega) (by omega),w64 (by omega) (by omega)];omega
theorem take_sz {y:List Rat} {K k:Nat} (h:∀ j,Sz (rg y j) K) (h1:1≤K) (j:Nat):Sz (rg (y.take k) j) K:=by
 by_cases hj:j < k
 ·rw [rg_take hj];exact h j
 ·have e:rg (y.take k) j = 0:=by unfold rg;rw [List.getD_eq_getElem?_getD,List.getElem?_eq_none (by rw [List.length_take];omega)];rfl
  have h1':(limbs 1).length = 1:=limbs1_len
  rw [e];exact ⟨by show (limbs 0).length≤K;rw [limbs_zero];exact Nat.zero_le _,by show (limbs 1).length≤K;omega⟩
theorem one_fiq (q:Rat) {K L:Nat} (h:K≤L):fitC (rAv q L) (.cons (qAv q K) .nil):=And.intro (And.intro rfl (.inl h)) True.intro
theorem zW_bd (G:Nat→Int) (m i:Nat):-9223372036854775808≤tNv G m i 30∧tNv G m i 30≤9223372036854775807∧1≤IntKind.i64.wrap (1 + tNv G m (tNi m i) 9)∧IntKind.i64.wrap (1 + tNv G m (tNi m i) 9)≤9223372036854775807:=by
 have b1:=tNv_bd G m i (m:=30) (by decide)
 have b2:=tNv_bd G m (tNi m i) (m:=9) (by decide)
 rw [w64 (by omega) (by omega)];omega
theorem zB_sz (G:Nat→Int) (m k:Nat):Sz (zB G m k) 2:=by
 have b1:=tNv_bd G m (tRsI m 0 k) (m:=400) (by decide)
 have b2:=tNv_bd G m (tNi m (tRsI m 0 k)) (m:=90) (by decide)
 unfold zB
 rw [w64 (by omega) (by omega),w64 (by omega) (by omega)]
 exact sz_mk2 (by rw [ba2];omega) (by omega) (by rw [ba2];omega)
def zFlip (q:Prg) (f:Nat→Rat) (k:Nat):Prop:=((q.row k).sense = -1∧0 < f k)∨((q.row k).sense = 1∧f k < 0)
open Classical in
noncomputable def zF (q:Prg) (f:Nat→Rat) (k j:Nat):Rat:=if j < k∧zFlip q f j then -f j else f j
theorem zF_zero (q:Prg) (f:Nat→Rat) (j:Nat):zF q f 0 j = f j:=if_neg fun h=>absurd h.1 (Nat.not_lt_zero j)
theorem zF_at (q:Prg) (f:Nat→Rat) (k:Nat):zF q f k k = f k:=if_neg fun h=>absurd h.1 (Nat.lt_irrefl k)
theorem zF_sz {q:Prg} {f:Nat→Rat} {k K:Nat} (h:∀ j,Sz (f j) K) (j:Nat):Sz (zF q f k j) K:=by
 unfold zF;split
 ·exact sz_neg (h j)
 ·exact h j
theorem z_keep {q:Prg} {f:Nat→Rat} {k n:Nat} (h:¬ zFlip q f k):∀ i,i < n→fitC (madeC (zF q f (k + 1)) 5 i) (madeC (zF q f k) 5 i):=fun i _=>by
 have e:zF q f k i = zF q f (k + 1) i:=by
  unfold zF
  by_cases hi:i = k
  ·subst hi;rw [if_neg fun hh=>h hh.2,if_neg fun hh=>h hh.2]
  ·by_cases hk:i < k∧zFlip q f i
   ·rw [if_pos hk,if_pos ⟨by omega,hk.2⟩]
   ·rw [if_neg hk,if_neg fun hh=>hk ⟨by omega,hh.2⟩]
 exact And.intro (And.intro e (.inl (Nat.le_refl 5))) True.intro
theorem z_flip {q:Prg} {f:Nat→Rat} {k n j:Nat} (hj:j = k) (h:zFlip q f k):∀ i,i < n→fitC (madeC (zF q f (k + 1)) 5 i) (if i = j then .cons (.ratC (-zF q f k k) 5) .nil else madeC (zF q f k) 5 i):=fun i _=>by
 subst hj
 by_cases hi:i = j
 ·subst hi
  rw [if_pos rfl]
  have e:-zF q f i i = zF q f (i + 1) i:=by
   rw [zF_at];unfold zF;rw [if_pos ⟨Nat.lt_succ_self i,h⟩]
  exact And.intro (And.intro e (.inl (Nat.le_refl 5))) True.intro
 ·rw [if_neg hi]
  have e:zF q f j i = zF q f (j + 1) i:=by
   unfold zF
   by_cases hk:i < j∧zFlip q f i
   ·rw [if_pos hk,if_pos ⟨by omega,hk.2⟩]
   ·rw [if_neg hk,if_neg fun hh=>hk ⟨by omega,hh.2⟩]
  exact And.intro (And.intro e (.inl (Nat.le_refl 5))) True.intro
theorem rg_sz {f:Nat→Rat} {n K:Nat} (h:∀ j,Sz (f j) K) (j:Nat) (h1:1≤K):Sz (rg ((List.range n).map f) j) K:=by
 by_cases hj:j < n
 ·rw [rg_map hj];exact h j
 ·have e:rg ((List.range n).map f) j = 0:=by unfold rg;rw [List.getD_eq_getElem?_getD,List.getElem?_eq_none (by simpa using hj)];rfl
  have h1':(limbs 1).length = 1:=limbs1_len
  rw [e];exact ⟨by show (limbs 0).length≤K;rw [limbs_zero];exact Nat.zero_le _,by show (limbs 1).length≤K;omega⟩
theorem zero_fit (K:Nat) (h:1≤K):fitC (rAv (mkRat 0 0) K) (.cons (.agg (.cons (.kb false) (.cons (.val (.slice none 0 0)) (.cons (.val (.slice none 0 0)) .nil)))) .nil):=And.intro (And.intro rfl h) True.intro
set_option smartUnfolding false in
theorem rbel_x (q:Rat) (K:Nat) (D:Int) (hz:Sz q K) (h1:1≤D) (hD:D≤1048576) (hK:K≤1048576):fnOk ⟨TT,specsOf [rRFloor_s,rWh_s,rRFromInt_s,rRMul_s,rIFromInt_s,rMake_s,rRMax_s]⟩ Tryz.f159 [qAv q K,.val (.int .i64 D)] (optAv (bel q D) (K + 1) true):=by
 (repeat((conv=>whnf);refine aig ?_))<;>try(conv=>whnf)
 refine And.intro (fun h=>absurd (of_decide_eq_true h) (by omega)) (fun _=>?_)
 have e1:=bel_one q
 (repeat((conv=>whnf);refine aig ?_))<;>try(conv=>whnf)
 refine ⟨⟨Nat,fun k=>(k:Int) + 1≤D,fun k=>[.slot 7 (.val (.int .i64 ((k:Int) + 2))),.obj 6 (.cons (.ratC (bel q ((k:Int) + 1)) (K + 1)) .nil)],fun k=>(D - k).toNat,0⟩,0,by omega,?_⟩
 have z1:=bel_sz (D:=1) hz (by omega) (by omega)
 have z0:Sz (q.floor:Rat) (K + 1):=by rw [e1];exact z1
 conv=>whnf
 refine And.intro ?_ ?_
 ·all_goals(repeat' first|exact ayg|apply And.intro|exact azg|fail)
 conv=>whnf
 rintro k h2
 (repeat((conv=>whnf);refine aig ?_))<;>try(conv=>whnf)
 refine And.intro (fun h5=>?_) (fun h5=>?_)
 ·have h6:(k:Int) + 2≤D:=of_decide_eq_true h5
  have w1:IntKind.i64.wrap ((k:Int) + 2 + 1) = (k:Int) + 2 + 1:=w64 (by omega) (by omega)
  have z2:=bel_y_sz (d:=(k:Int) + 2) hz (by omega) (by omega)
  have z3:=bel_sz (D:=(k:Int) + 2) hz (by omega) (by omega)
  have e2:=bel_step q k
  have e3:mkRat (q * mkRat ((k:Int) + 2) 1).floor ((k:Int) + 2).toNat = Rat.divInt (q * (((k:Int) + 2:Int):Rat)).floor ((k:Int) + 2):=by
   rw [Rat.mkRat_one,show ((k:Int) + 2).toNat = k + 2 by omega]
   exact (Rat.divInt_ofNat _ (k + 2)).symm
  (repeat((conv=>whnf);refine aig ?_))<;>try(conv=>whnf)
  refine ⟨(Rat.divInt (q * (((k:Int) + 2:Int):Rat)).floor ((k:Int) + 2),K + 1),⟨by omega,by omega,e3,z2⟩,?_⟩
  (repeat((conv=>whnf);refine aig ?_))<;>try(conv=>whnf)
  refine ⟨k + 1,(show ((k + 1:Nat):Int) + 1≤D by omega),(show (D - ((k + 1:Nat):Int)).toNat < (D - (k:Int)).toNat by omega),?_⟩
  conv=>whnf
  all_goals(repeat' first|exact ayg|apply And.intro|exact azg|fail)
  exact Or.inr (show Sz (maxQ (bel q ((k:Int) + 1)) (Rat.divInt (q * (((k:Int) + 2:Int):Rat)).floor ((k:Int) + 2))) (K + 1) from by rw [e2];exact z3)
 ·have h6:¬ (k:Int) + 2≤D:=of_decide_eq_false h5
  obtain rfl:D = (k:Int) + 1:=by omega
  (repeat((conv=>whnf);refine aig ?_))<;>try(conv=>whnf)
  all_goals(repeat' first|exact ayg|apply And.intro|exact azg|fail)
noncomputable def rbel_s:PSpec Tryz.prog:=⟨159,ghSpec ((Rat × Int) × Nat) (fun | ((c0,c1),c2)=>[qAv c0 c2,.val (.int .i64 c1)]) (fun | ((c0,c1),c2)=>Sz c0 c2∧1≤c1∧c1≤1048576∧c2≤1048576) (fun | ((c0,c1),c2)=>optAv (bel c0 c1) (c2 + 1) true),ghSpec_ok (fn:=Tryz.f159) (ctx_ok TT_ok [rRFloor_s,rWh_s,rRFromInt_s,rRMul_s,rIFromInt_s,rMake_s,rRMax_s]) mixed_ok (by kernel_rfl) (fun | ((c0,c1),c2),hp=>rbel_x c0 c2 c1 hp.1 hp.2.1 hp.2.2.1 hp.2.2.2),by kernel_rfl⟩
set_option smartUnfolding false in
theorem rabv_x (q:Rat) (K:Nat) (D:Int) (hz:Sz q K) (h1:1≤D) (hD:D≤1048576) (hK:K≤1048576):fnOk ⟨TT,specsOf [rRNeg_s,rbel_s]⟩ Tryz.f160 [qAv q K,.val (.int .i64 D)] (optAv (abv q D) (K + 1) true):=by
 have e1:=abv_bel (q:=q) h1
 (repeat((conv=>whnf);refine aig ?_))<;>try(conv=>whnf)
 refine ⟨((-q,D),K),⟨⟨sz_neg hz,h1,hD,hK⟩,And.intro (And.intro (And.intro rfl (.inl (Nat.le_refl K))) True.intro) (And.intro rfl True.intro)⟩,?_⟩
 (repeat((conv=>whnf);refine aig ?_))<;>try(conv=>whnf)
 all_goals(repeat' first|exact ayg|apply And.intro|exact azg|fail)
 exact e1.symm
noncomputable def rabv_s:PSpec Tryz.prog:=⟨160,ghSpec ((Rat × Int) × Nat) (fun | ((c0,c1),c2)=>[qAv c0 c2,.val (.int .i64 c1)]) (fun | ((c0,c1),c2)=>Sz c0 c2∧1≤c1∧c1≤1048576∧c2≤1048576) (fun | ((c0,c1),c2)=>optAv (abv c0 c1) (c2 + 1) true),ghSpec_ok (fn:=Tryz.f160) (ctx_ok TT_ok [rRNeg_s,rbel_s]) mixed_ok (by kernel_rfl) (fun | ((c0,c1),c2),hp=>rabv_x c0 c2 c1 hp.1 hp.2.1 hp.2.2.1 hp.2.2.2),by kernel_rfl⟩
set_option smartUnfolding false in
theorem wcand_x (y:List Rat) (d:Int) (K:Nat) (hl:y.length≤1048576) (hK:K≤1048576) (hz:∀ j,Sz (rg y j) K) (hd:1≤d) (hD:d≤1048576):fnOk ⟨TT,specsOf [rRNorm_s,rRSign_s,rbel_s,rabv_s]⟩ Tryz.f111 [rlAv y K,.val (.int .i64 d)] (madeAv (fun j=>cand (rg y j) d) y.length (K + 2)):=by
 (repeat((conv=>whnf);refine aig ?_))<;>try(conv=>whnf)
 refine ⟨⟨Nat,fun j=>j≤y.length,fun j=>[.slot 6 (.val (.int .i64 (j:Int))),.own 5 36 3 j (madeC (fun j=>cand (rg y j) d) (K + 2)),.slot 5 (.row 5)],fun j=>y.length - j,0⟩,0,Nat.zero_le _,?_⟩
 conv=>whnf
 refine And.intro ?_ ?_
 ·all_goals(repeat' first|exact ayg|apply And.intro|exact azg|fail)
 conv=>whnf
 rintro j h3
 (repeat((conv=>whnf);refine aig ?_))<;>try(conv=>whnf)
 refine And.intro (fun h5=>?_) (fun h5=>?_)
 ·have h6:(j:Int) < y.length:=of_decide_eq_true h5
  have w1:IntKind.i64.wrap ((j:Int) + 1) = (j:Int) + 1:=w64 (by omega) (by omega)
  have hzj:=hz j
  (repeat((conv=>whnf);refine aig ?_))<;>try(conv=>whnf)
  refine And.intro (fun h7=>?_) (fun h7=>?_)
  ·(repeat((conv=>whnf);refine aig ?_))<;>try(conv=>whnf)
   refine ⟨((rg y j,d),K),⟨⟨hzj,hd,hD,by omega⟩,And.intro (And.intro (And.intro rfl (.inl (Nat.le_refl K))) True.intro) (And.intro rfl True.intro)⟩,?_⟩
   (repeat((conv=>whnf);refine aig ?_))<;>try(conv=>whnf)
   refine ⟨j + 1,(show j + 1≤y.length by omega),(show y.length - (j + 1) < y.length - j by omega),?_⟩
   conv=>whnf
   all_goals(repeat' first|exact ayg|apply And.intro|exact azg|fail)
   exact made_app (f:=fun j=>cand (rg y j) d) (cand_posD d h7) (.inl (by omega))
  (repeat((conv=>whnf);refine aig ?_))<;>try(conv=>whnf)
  refine And.intro (fun h8=>?_) (fun h8=>?_)
  ·(repeat((conv=>whnf);refine aig ?_))<;>try(conv=>whnf)
   refine ⟨((rg y j,d),K),⟨⟨hzj,hd,hD,by omega⟩,And.intro (And.intro (And.intro rfl (.inl (Nat.le_refl K))) True.intro) (And.intro rfl True.intro)⟩,?_⟩
   (repeat((conv=>whnf);refine aig ?_))<;>try(conv=>whnf)
   refine ⟨j + 1,(show j + 1≤y.length by omega),(show y.length - (j + 1) < y.length - j by omega),?_⟩
   conv=>whnf
   all_goals(repeat' first|exact ayg|apply And.intro|exact azg|fail)
   exact made_app (f:=fun j=>cand (rg y j) d) (cand_negD d h8) (.inl (by omega))
  (repeat((conv=>whnf);refine aig ?_))<;>try(conv=>whnf)
  refine ⟨j + 1,(show j + 1≤y.length by omega),(show y.length - (j + 1) < y.length - j by omega),?_⟩
  conv=>whnf
  all_goals(repeat' first|exact ayg|apply And.intro|exact azg|fail)
  exact made_app (f:=fun j=>cand (rg y j) d) (cand_nilD d h7 h8) (.inl (by omega))
 have h6:¬ (j:Int) < y.length:=of_decide_eq_false h5
 obtain rfl:j = y.length:=by omega
 (repeat((conv=>whnf);refine aig ?_))<;>try(conv=>whnf)
 all_goals(repeat' first|exact ayg|apply And.intro|exact azg|fail)
 exact made_refl _ _ _
noncomputable def wcand_s:PSpec Tryz.prog:=⟨111,ghSpec ((List Rat × Int) × Nat) (fun | ((c0,c1),c2)=>[rlAv c0 c2,.val (.int .i64 c1)]) (fun | ((c0,c1),c2)=>c0.length≤1048576∧c2≤1048576∧(∀ j,Sz (rg c0 j) c2)∧1≤c1∧c1≤1048576) (fun | ((c0,c1),c2)=>madeAv (fun j=>cand (rg c0 j) c1) c0.length (c2 + 2)),ghSpec_ok (fn:=Tryz.f111) (ctx_ok TT_ok [rRNorm_s,rRSign_s,rbel_s,rabv_s]) mixed_ok (by kernel_rfl) (fun | ((c0,c1),c2),hp=>wcand_x c0 c1 c2 hp.1 hp.2.1 hp.2.2.1 hp.2.2.2.1 hp.2.2.2.2),by kernel_rfl⟩
set_option smartUnfolding false in
theorem wsh_x (p:Prg) (y:List Rat) (v:Rat) (m:Int) (K M:Nat) (hy:SH p y K M) (hm:m≤1048576):fnOk ⟨TT,specsOf [wcand_s,watl_s,rCanon_s]⟩ Tryz.f58 [prgAv p K,rlAv y K,rAv v K,.val (.int .i64 m)] (madeAv (rg (shL p y v m)) y.length (K + 2)):=by
 have b0:=hy.l
 have b1:=hy.hK
 have b2:=hy.h1
 (repeat((conv=>whnf);refine aig ?_))<;>try(conv=>whnf)
 refine ⟨⟨Nat,fun i=>(∀ j,j < i→¬ AtL p (candL y (pw j).num) v)∧(i = 0∨((2 ^ (i - 1):Nat):Int)≤m),fun i=>[.slot 9 (.val (.int .i64 ((2 ^ i:Nat):Int)))],fun i=>(m + 1 - ((2 ^ i:Nat):Int)).toNat,0⟩,0,⟨fun j hj=>by omega,.inl rfl⟩,?_⟩
 conv=>whnf
 refine And.intro ?_ ?_
 ·all_goals(repeat' first|exact ayg|apply And.intro|exact azg|fail)
 conv=>whnf
 rintro i ⟨h7,h8⟩
 have h15:=Nat.pow_pos (n:=i) (show 0 < 2 by decide)
 (repeat((conv=>whnf);refine aig ?_))<;>try(conv=>whnf)
 refine And.intro (fun h9=>?_) (fun h9=>?_)
 ·have h10:((2 ^ i:Nat):Int)≤m:=of_decide_eq_true h9
  (repeat((conv=>whnf);refine aig ?_))<;>try(conv=>whnf)
  refine ⟨((y,((2 ^ i:Nat):Int)),K),⟨⟨b0,b1,hy.z,by omega,by omega⟩,And.intro (rl_fit y (Nat.le_refl K)) (And.intro rfl True.intro)⟩,?_⟩
  (repeat((conv=>whnf);refine aig ?_))<;>try(conv=>whnf)
  refine ⟨((((p,candL y (pw i).num),v),K + 2),M),⟨hy.c i,?_⟩,?_⟩
  ·refine And.intro (prg_fit p (show K≤K + 2 by omega)) (And.intro ?_ (And.intro (rat_fit v (show K≤K + 2 by omega)) True.intro))
   exact And.intro rfl (And.intro (candL_len _ _).symm fun j _=>And.intro (And.intro (candL_rg _ _ _).symm (.inl (Nat.le_refl _))) True.intro)
  (repeat((conv=>whnf);refine aig ?_))<;>try(conv=>whnf)
  refine And.intro (fun h11=>?_) (fun h11=>?_)
  ·have hf:=shL_hit h10 (pb_t.1 h11) h7
   (repeat((conv=>whnf);refine aig ?_))<;>try(conv=>whnf)
   all_goals(repeat' first|exact ayg|apply And.intro|exact azg|fail)
   exact fun j hj=>And.intro (And.intro ((candL_rg _ _ _).symm.trans (hf j hj).symm) (.inl (Nat.le_refl _))) True.intro
  ·have h14:2 ^ (i + 1) = 2 ^ i * 2:=Nat.pow_succ _ _
   have w1:IntKind.i64.wrap (((2 ^ i:Nat):Int) * 2) = ((2 ^ (i + 1):Nat):Int):=by rw [w64 (by omega) (by omega),h14];omega
   (repeat((conv=>whnf);refine aig ?_))<;>try(conv=>whnf)
   refine ⟨i + 1,⟨fun j hj=>?_,.inr h10⟩,?_,?_⟩
   ·rcases Nat.lt_or_ge j i with hji | hji
    ·exact h7 j hji
    ·rw [show j = i by omega];exact pb_f.1 h11
   ·show (m + 1 - ((2 ^ (i + 1):Nat):Int)).toNat < (m + 1 - ((2 ^ i:Nat):Int)).toNat
    omega
   conv=>whnf
   all_goals(repeat' first|exact ayg|apply And.intro|exact azg|fail)
 ·have h10:¬ ((2 ^ i:Nat):Int)≤m:=of_decide_eq_false h9
  have hf:=shL_miss h10 h7
  (repeat((conv=>whnf);refine aig ?_))<;>try(conv=>whnf)
  refine ⟨(y,K),⟨⟨b0,by omega⟩,And.intro (rl_fit y (Nat.le_refl K)) True.intro⟩,?_⟩
  (repeat((conv=>whnf);refine aig ?_))<;>try(conv=>whnf)
  all_goals(repeat' first|exact ayg|apply And.intro|exact azg|fail)
  rw [hf]
  exact fun j _=>And.intro (And.intro rfl (.inl (by omega))) True.intro
noncomputable def wsh_s:PSpec Tryz.prog:=⟨58,ghSpec (((((Prg × List Rat) × Rat) × Int) × Nat) × Nat) (fun | (((((c0,c1),c2),c3),c4),_)=>[prgAv c0 c4,rlAv c1 c4,rAv c2 c4,.val (.int .i64 c3)]) (fun | (((((c0,c1),_),c3),c4),c5)=>SH c0 c1 c4 c5∧c3≤1048576) (fun | (((((c0,c1),c2),c3),c4),_)=>madeAv (rg (shL c0 c1 c2 c3)) c1.length (c4 + 2)),ghSpec_ok (fn:=Tryz.f58) (ctx_ok TT_ok [wcand_s,watl_s,rCanon_s]) mixed_ok (by kernel_rfl) (fun | (((((c0,c1),c2),c3),c4),c5),hp=>wsh_x c0 c1 c2 c3 c4 c5 hp.1 hp.2),by kernel_rfl⟩
set_option maxHeartbeats 4000000 in
set_option smartUnfolding false in
theorem sh12_x (p:Prg) (y:List Rat) (v:Rat) (K M:Nat) (hb0:PB p K) (hs:SH p (y.take 20) K M) (h2K:2≤K) (F G:Nat→Int) (n m:Nat) (hn:n≤1048576) (hm:m≤1048576) (a:Int) (ha:0≤a∧a≤255):fnOk ⟨TT,specsOf [gprg_s,tnew_s,next_s,rROf_s,rRSign_s,rRNeg_s,wbnd_s,rRSub_s,first_s,aw12_s,sml_s,rIFromInt_s,csh_s,wsh_s,rSame_s]⟩ Tryz.f10 [prgAv p K,rlAv y K,rAv v K,tA F n,tA G m,.val (.int .u8 a)] (.val (.bool true)):=by
 obtain ⟨q,hq⟩:∃ q,q = gPrg F n 0 4 4:=⟨_,rfl⟩
 have q1:=hq ▸ gp_bd F n
 have hb:PB q 5:=hq ▸ pb_prg4 F n 0 (by decide)
 have hbK:PB q 1000:=hq ▸ pb_prg4 F n 0 (by decide)
 have hw:Wt (prgN q) 100:=hq ▸ wt_prg4 F n 0
 have c0:IntKind.i64.wrap (a.tmod 40) = a.tmod 40:=w64 (by have:=Int.tmod_nonneg 40 ha.1;omega) (by have:=Int.tmod_lt_of_pos a (show (0:Int) < 40 by decide);omega)
 have c1:0≤a.tmod 40∧a.tmod 40≤39:=⟨Int.tmod_nonneg 40 ha.1,by have:=Int.tmod_lt_of_pos a (show (0:Int) < 40 by decide);omega⟩
 have c2:0≤IntKind.i64.wrap (a.tmod 40)∧IntKind.i64.wrap (a.tmod 40)≤39:=by rw [c0];exact c1
 obtain ⟨N,hN⟩:∃ N,N = IntKind.i64.wrap (a.tmod 40):=⟨_,rfl⟩
 have c3:0≤N∧N≤39:=hN ▸ c2
 (repeat((conv=>whnf);refine aig ?_))<;>try(conv=>whnf)
 refine ⟨((F,n),q),⟨⟨hn,hq⟩,And.intro (tA_fit F n) True.intro⟩,?_⟩
 (repeat((conv=>whnf);refine aig ?_))<;>try(conv=>whnf)
 refine And.intro ⟨rfl,hm,fun _ _=>rfl⟩ ?_
 (repeat((conv=>whnf);refine aig ?_))<;>try(conv=>whnf)
 refine ⟨⟨Nat,fun k=>k≤q.rows.length,fun k=>[.slot 17 (.val (.int .i64 (k:Int))),.own 16 36 3 k (madeC (zB G m) 5),.slot 16 (.row 16),.obj 28 (tpC G m (tRsI m 0 k))],fun k=>q.rows.length - k,0⟩,0,Nat.zero_le _,?_⟩
 conv=>whnf
 refine And.intro ?_ ?_
 ·all_goals(repeat' first|exact ayg|apply And.intro|exact azg|fail)
  all_goals exact fun _ _=>And.intro rfl True.intro
 conv=>whnf
 rintro k h2
 (repeat((conv=>whnf);refine aig ?_))<;>try(conv=>whnf)
 refine And.intro (fun h5=>?_) (fun h5=>?_)
 ·have h6:(k:Int) < q.rows.length:=of_decide_eq_true h5
  have w1:IntKind.i64.wrap ((k:Int) + 1) = (k:Int) + 1:=w64 (by omega) (by omega)
  have t1:tRsI m 0 k≤m:=tRsI_le (Nat.zero_le m) k
  (repeat((conv=>whnf);refine aig ?_))<;>try(conv=>whnf)
  refine And.intro ⟨rfl,Int.natCast_nonneg _,t1,hm,fun _ _=>rfl,rfl,by decide,by decide⟩ ?_
  (repeat((conv=>whnf);refine aig ?_))<;>try(conv=>whnf)
  refine And.intro ⟨rfl,Int.natCast_nonneg _,tNi_le t1,hm,fun _ _=>rfl,rfl,by decide,by decide⟩ ?_
  (repeat((conv=>whnf);refine aig ?_))<;>try(conv=>whnf)
  refine And.intro (zB_bd G m k) ?_
  (repeat((conv=>whnf);refine aig ?_))<;>try(conv=>whnf)
  refine ⟨k + 1,(show k + 1≤q.rows.length by omega),(show q.rows.length - (k + 1) < q.rows.length - k by omega),?_⟩
  conv=>whnf
  all_goals(repeat' first|exact ayg|apply And.intro|exact azg|fail)
  all_goals first | exact fun _ _=>And.intro rfl True.intro | exact congrArg (Value.int .i64) w1 | exact made_app (f:=zB G m) rfl (.inl (Nat.le_refl 5))
 have h6:¬ (k:Int) < q.rows.length:=of_decide_eq_false h5
 obtain rfl:k = q.rows.length:=by omega
 (repeat((conv=>whnf);refine aig ?_))<;>try(conv=>whnf)
 refine ⟨⟨Nat,fun k=>k≤q.rows.length,fun k=>[.slot 18 (.val (.int .i64 (k:Int))),.mod 16 36 3 q.rows.length (madeC (zF q (zB G m) k) 5)],fun k=>q.rows.length - k,0⟩,0,Nat.zero_le _,?_⟩
 conv=>whnf
 refine And.intro ?_ ?_
 ·all_goals(repeat' first|exact ayg|apply And.intro|exact azg|fail)
  all_goals exact fun i _=>And.intro (And.intro (zF_zero q (zB G m) i).symm (.inl (Nat.le_refl 5))) True.intro
 conv=>whnf
 rintro k h2
 (repeat((conv=>whnf);refine aig ?_))<;>try(conv=>whnf)
 refine And.intro (fun h5=>?_) (fun h5=>?_)
 ·have h6:(k:Int) < q.rows.length:=of_decide_eq_true h5
  have w1:IntKind.i64.wrap ((k:Int) + 1) = (k:Int) + 1:=w64 (by omega) (by omega)
  have f1:=@sgn_pos (zF q (zB G m) k (k:Int).toNat)
  have f2:=@sgn_neg (zF q (zB G m) k (k:Int).toNat)
  have f3:zF q (zB G m) k (k:Int).toNat = zB G m k:=zF_at q (zB G m) k
  have f4:zFlip q (zB G m) k↔((q.rows.getD (k:Int).toNat rowZ).sense = -1∧0 < zB G m k)∨((q.rows.getD (k:Int).toNat rowZ).sense = 1∧zB G m k < 0):=Iff.rfl
  (repeat((conv=>whnf);refine aig ?_))<;>try(conv=>whnf)
  repeat' (first|(refine And.intro (fun _=>?_) (fun _=>?_))|((conv=>whnf);refine alg ?_))
  all_goals (try(conv=>whnf))
  all_goals
   refine ⟨k + 1,(show k + 1≤q.rows.length by omega),(show q.rows.length - (k + 1) < q.rows.length - k by omega),?_⟩
   conv=>whnf
   all_goals(repeat' first|exact ayg|apply And.intro|exact azg|fail)
   first | exact z_keep (by grind) | exact z_flip rfl (by grind) | (trace_state;sorry)
 have h6:¬ (k:Int) < q.rows.length:=of_decide_eq_false h5
 obtain rfl:k = q.rows.length:=by omega
 have wZ:Wt ((List.range q.rows.length).map (zF q (zB G m) q.rows.length)) 8:=(wt_fun q.rows.length (zF_sz (zB_sz G m))).mono (by omega)
 have yZ:PY q ((List.range q.rows.length).map (zF q (zB G m) q.rows.length)) 1000 651:=py_of hbK ((hw.app wZ).mono (show 100 + 8≤108 by decide)) (by decide)
 have sZ:SH q ((List.range q.rows.length).map (zF q (zB G m) q.rows.length)) 1000 651:=sh_of (a:=100) (b:=8) hbK hw wZ (by rw [made_len];omega) (by decide) (by decide) (fun j=>rg_sz (fun j=>(zF_sz (zB_sz G m) j).mono (by decide)) j (by decide)) (by decide)
 have t0:tRsI m 0 q.rows.length≤m:=tRsI_le (Nat.zero_le m) _
 have hsK:=hs.hK
 (repeat((conv=>whnf);refine aig ?_))<;>try(conv=>whnf)
 by_cases hbo:BndOk q ((List.range q.rows.length).map (zF q (zB G m) q.rows.length))
 ·refine ⟨((((q,((List.range q.rows.length).map (zF q (zB G m) q.rows.length))),1000),651),true),⟨⟨yZ,fun _=>hbo,fun _=>rfl⟩,And.intro (prg_fit q (by decide)) (And.intro (made_fit _ _ (by decide)) True.intro)⟩,?_⟩
  (repeat((conv=>whnf);refine aig ?_))<;>try(conv=>whnf)
  refine And.intro ⟨rfl,Int.natCast_nonneg _,t0,hm,fun _ _=>rfl,rfl,by decide,by decide⟩ ?_
  (repeat((conv=>whnf);refine aig ?_))<;>try(conv=>whnf)
  refine And.intro ⟨rfl,Int.natCast_nonneg _,tNi_le t0,hm,fun _ _=>rfl,rfl,by decide,by decide⟩ ?_
  (repeat((conv=>whnf);refine aig ?_))<;>try(conv=>whnf)
  refine And.intro (zW_bd G m _) ?_
  (repeat((conv=>whnf);refine aig ?_))<;>try(conv=>whnf)
  refine ⟨(y,K),⟨Nat.zero_le _,And.intro (rl_fit y (Nat.le_refl K)) (And.intro rfl True.intro)⟩,?_⟩
  (repeat((conv=>whnf);refine aig ?_))<;>try(conv=>whnf)
  refine ⟨(p,K),⟨hb0,And.intro (prg_fit p (Nat.le_refl K)) True.intro⟩,?_⟩
  (repeat((conv=>whnf);refine aig ?_))<;>try(conv=>whnf)
  refine And.intro (fun _=>?_) (fun _=>?_)
  ·(repeat((conv=>whnf);refine aig ?_))<;>try(conv=>whnf)
   refine ⟨(((((q,((List.range q.rows.length).map (zF q (zB G m) q.rows.length))),_),(IntKind.i64.wrap (a.tmod 40))),1000),651),⟨sZ,And.intro (prg_fit q (by decide)) (And.intro (made_fit _ _ (by decide)) (And.intro (one_fiq _ (by decide)) (And.intro (And.intro (And.intro rfl (.inl (by decide))) True.intro) True.intro)))⟩,?_⟩
   (repeat((conv=>whnf);refine aig ?_))<;>try(conv=>whnf)
   refine ⟨(((((q,((List.range q.rows.length).map (zF q (zB G m) q.rows.length))),_),(IntKind.i64.wrap (a.tmod 40))),1000),651),⟨⟨sZ,by omega⟩,And.intro (prg_fit q (by decide)) (And.intro (made_fit _ _ (by decide)) (And.intro (one_fiq _ (by decide)) (And.intro rfl True.intro)))⟩,?_⟩
   (repeat((conv=>whnf);refine aig ?_))<;>try(conv=>whnf)
   refine ⟨(((((rg (shL q ((List.range q.rows.length).map (zF q (zB G m) q.rows.length)) _ (IntKind.i64.wrap (a.tmod 40))),((List.range q.rows.length).map (zF q (zB G m) q.rows.length)).length),1002),rg (shL q ((List.range q.rows.length).map (zF q (zB G m) q.rows.length)) _ (IntKind.i64.wrap (a.tmod 40)))),((List.range q.rows.length).map (zF q (zB G m) q.rows.length)).length),1002),⟨⟨by rw [made_len];omega,by decide,by decide⟩,And.intro (And.intro rfl (And.intro rfl (made_refl _ _ _))) (And.intro (And.intro rfl (And.intro rfl (made_refl _ _ _))) True.intro)⟩,?_⟩
   (repeat((conv=>whnf);refine aig ?_))<;>try(conv=>whnf)
   exact congrArg Value.bool (pb_t.2 (same_refl _ _))
  ·(repeat((conv=>whnf);refine aig ?_))<;>try(conv=>whnf)
   refine ⟨(((((p,y.take 20),v),(IntKind.i64.wrap (a.tmod 40))),K),M),⟨hs,And.intro (prg_fit p (Nat.le_refl K)) (And.intro (rl_fit _ (Nat.le_refl K)) (And.intro (rat_fit v (Nat.le_refl K)) (And.intro (And.intro (And.intro rfl (.inl h2K)) True.intro) True.intro)))⟩,?_⟩
   (repeat((conv=>whnf);refine aig ?_))<;>try(conv=>whnf)
   refine ⟨(((((p,y.take 20),v),(IntKind.i64.wrap (a.tmod 40))),K),M),⟨⟨hs,by omega⟩,And.intro (prg_fit p (Nat.le_refl K)) (And.intro (rl_fit _ (Nat.le_refl K)) (And.intro (rat_fit v (Nat.le_refl K)) (And.intro rfl True.intro)))⟩,?_⟩
   (repeat((conv=>whnf);refine aig ?_))<;>try(conv=>whnf)
   refine ⟨(((((rg (shL p (y.take 20) v (IntKind.i64.wrap (a.tmod 40))),(y.take 20).length),K + 2),rg (shL p (y.take 20) v (IntKind.i64.wrap (a.tmod 40)))),(y.take 20).length),K + 2),⟨⟨hs.l,by omega,by omega⟩,And.intro (And.intro rfl (And.intro rfl (made_refl _ _ _))) (And.intro (And.intro rfl (And.intro rfl (made_refl _ _ _))) True.intro)⟩,?_⟩
   (repeat((conv=>whnf);refine aig ?_))<;>try(conv=>whnf)
   refine And.intro (fun _=>?_) (fun h=>absurd (h.symm.trans (pb_t.2 (same_refl _ _))) Bool.false_ne_true)
   (repeat((conv=>whnf);refine aig ?_))<;>try(conv=>whnf)
   refine ⟨(((((q,((List.range q.rows.length).map (zF q (zB G m) q.rows.length))),_),(IntKind.i64.wrap (a.tmod 40))),1000),651),⟨sZ,And.intro (prg_fit q (by decide)) (And.intro (made_fit _ _ (by decide)) (And.intro (one_fiq _ (by decide)) (And.intro (And.intro (And.intro rfl (.inl (by decide))) True.intro) True.intro)))⟩,?_⟩
   (repeat((conv=>whnf);refine aig ?_))<;>try(conv=>whnf)
   refine ⟨(((((q,((List.range q.rows.length).map (zF q (zB G m) q.rows.length))),_),(IntKind.i64.wrap (a.tmod 40))),1000),651),⟨⟨sZ,by omega⟩,And.intro (prg_fit q (by decide)) (And.intro (made_fit _ _ (by decide)) (And.intro (one_fiq _ (by decide)) (And.intro rfl True.intro)))⟩,?_⟩
   (repeat((conv=>whnf);refine aig ?_))<;>try(conv=>whnf)
   refine ⟨(((((rg (shL q ((List.range q.rows.length).map (zF q (zB G m) q.rows.length)) _ (IntKind.i64.wrap (a.tmod 40))),((List.range q.rows.length).map (zF q (zB G m) q.rows.length)).length),1002),rg (shL q ((List.range q.rows.length).map (zF q (zB G m) q.rows.length)) _ (IntKind.i64.wrap (a.tmod 40)))),((List.range q.rows.length).map (zF q (zB G m) q.rows.length)).length),1002),⟨⟨by rw [made_len];omega,by decide,by decide⟩,And.intro (And.intro rfl (And.intro rfl (made_refl _ _ _))) (And.intro (And.intro rfl (And.intro rfl (made_refl _ _ _))) True.intro)⟩,?_⟩
   (repeat((conv=>whnf);refine aig ?_))<;>try(conv=>whnf)
   exact congrArg Value.bool (pb_t.2 (same_refl _ _))
 ·refine ⟨((((q,((List.range q.rows.length).map (zF q (zB G m) q.rows.length))),1000),651),false),⟨⟨yZ,fun h=>(by cases h),fun h=>absurd h hbo⟩,And.intro (prg_fit q (by decide)) (And.intro (made_fit _ _ (by decide)) True.intro)⟩,?_⟩
  (repeat((conv=>whnf);refine aig ?_))<;>try(conv=>whnf)
  refine ⟨(y,K),⟨Nat.zero_le _,And.intro (rl_fit y (Nat.le_refl K)) (And.intro rfl True.intro)⟩,?_⟩
  (repeat((conv=>whnf);refine aig ?_))<;>try(conv=>whnf)
  refine ⟨(p,K),⟨hb0,And.intro (prg_fit p (Nat.le_refl K)) True.intro⟩,?_⟩
  (repeat((conv=>whnf);refine aig ?_))<;>try(conv=>whnf)
  refine And.intro (fun _=>?_) (fun _=>?_)
  ·(repeat((conv=>whnf);refine aig ?_))<;>try(conv=>whnf)
   refine ⟨(((((q,((List.range q.rows.length).map (zF q (zB G m) q.rows.length))),_),(IntKind.i64.wrap (a.tmod 40))),1000),651),⟨sZ,And.intro (prg_fit q (by decide)) (And.intro (made_fit _ _ (by decide)) (And.intro (zero_fit 1000 (by decide)) (And.intro (And.intro (And.intro rfl (.inl (by decide))) True.intro) True.intro)))⟩,?_⟩
   (repeat((conv=>whnf);refine aig ?_))<;>try(conv=>whnf)
   refine ⟨(((((q,((List.range q.rows.length).map (zF q (zB G m) q.rows.length))),_),(IntKind.i64.wrap (a.tmod 40))),1000),651),⟨⟨sZ,by omega⟩,And.intro (prg_fit q (by decide)) (And.intro (made_fit _ _ (by decide)) (And.intro (zero_fit 1000 (by decide)) (And.intro rfl True.intro)))⟩,?_⟩
   (repeat((conv=>whnf);refine aig ?_))<;>try(conv=>whnf)
   refine ⟨(((((rg (shL q ((List.range q.rows.length).map (zF q (zB G m) q.rows.length)) _ (IntKind.i64.wrap (a.tmod 40))),((List.range q.rows.length).map (zF q (zB G m) q.rows.length)).length),1002),rg (shL q ((List.range q.rows.length).map (zF q (zB G m) q.rows.length)) _ (IntKind.i64.wrap (a.tmod 40)))),((List.range q.rows.length).map (zF q (zB G m) q.rows.length)).length),1002),⟨⟨by rw [made_len];omega,by decide,by decide⟩,And.intro (And.intro rfl (And.intro rfl (made_refl _ _ _))) (And.intro (And.intro rfl (And.intro rfl (made_refl _ _ _))) True.intro)⟩,?_⟩
   (repeat((conv=>whnf);refine aig ?_))<;>try(conv=>whnf)
   exact congrArg Value.bool (pb_t.2 (same_refl _ _))
  ·(repeat((conv=>whnf);refine aig ?_))<;>try(conv=>whnf)
   refine ⟨(((((p,y.take 20),v),(IntKind.i64.wrap (a.tmod 40))),K),M),⟨hs,And.intro (prg_fit p (Nat.le_refl K)) (And.intro (rl_fit _ (Nat.le_refl K)) (And.intro (rat_fit v (Nat.le_refl K)) (And.intro (And.intro (And.intro rfl (.inl h2K)) True.intro) True.intro)))⟩,?_⟩
   (repeat((conv=>whnf);refine aig ?_))<;>try(conv=>whnf)
   refine ⟨(((((p,y.take 20),v),(IntKind.i64.wrap (a.tmod 40))),K),M),⟨⟨hs,by omega⟩,And.intro (prg_fit p (Nat.le_refl K)) (And.intro (rl_fit _ (Nat.le_refl K)) (And.intro (rat_fit v (Nat.le_refl K)) (And.intro rfl True.intro)))⟩,?_⟩
   (repeat((conv=>whnf);refine aig ?_))<;>try(conv=>whnf)
   refine ⟨(((((rg (shL p (y.take 20) v (IntKind.i64.wrap (a.tmod 40))),(y.take 20).length),K + 2),rg (shL p (y.take 20) v (IntKind.i64.wrap (a.tmod 40)))),(y.take 20).length),K + 2),⟨⟨hs.l,by omega,by omega⟩,And.intro (And.intro rfl (And.intro rfl (made_refl _ _ _))) (And.intro (And.intro rfl (And.intro rfl (made_refl _ _ _))) True.intro)⟩,?_⟩
   (repeat((conv=>whnf);refine aig ?_))<;>try(conv=>whnf)
   refine And.intro (fun _=>?_) (fun h=>absurd (h.symm.trans (pb_t.2 (same_refl _ _))) Bool.false_ne_true)
   (repeat((conv=>whnf);refine aig ?_))<;>try(conv=>whnf)
   refine ⟨(((((q,((List.range q.rows.length).map (zF q (zB G m) q.rows.length))),_),(IntKind.i64.wrap (a.tmod 40))),1000),651),⟨sZ,And.intro (prg_fit q (by decide)) (And.intro (made_fit _ _ (by decide)) (And.intro (zero_fit 1000 (by decide)) (And.intro (And.intro (And.intro rfl (.inl (by decide))) True.intro) True.intro)))⟩,?_⟩
   (repeat((conv=>whnf);refine aig ?_))<;>try(conv=>whnf)
   refine ⟨(((((q,((List.range q.rows.length).map (zF q (zB G m) q.rows.length))),_),(IntKind.i64.wrap (a.tmod 40))),1000),651),⟨⟨sZ,by omega⟩,And.intro (prg_fit q (by decide)) (And.intro (made_fit _ _ (by decide)) (And.intro (zero_fit 1000 (by decide)) (And.intro rfl True.intro)))⟩,?_⟩
   (repeat((conv=>whnf);refine aig ?_))<;>try(conv=>whnf)
   refine ⟨(((((rg (shL q ((List.range q.rows.length).map (zF q (zB G m) q.rows.length)) _ (IntKind.i64.wrap (a.tmod 40))),((List.range q.rows.length).map (zF q (zB G m) q.rows.length)).length),1002),rg (shL q ((List.range q.rows.length).map (zF q (zB G m) q.rows.length)) _ (IntKind.i64.wrap (a.tmod 40)))),((List.range q.rows.length).map (zF q (zB G m) q.rows.length)).length),1002),⟨⟨by rw [made_len];omega,by decide,by decide⟩,And.intro (And.intro rfl (And.intro rfl (made_refl _ _ _))) (And.intro (And.intro rfl (And.intro rfl (made_refl _ _ _))) True.intro)⟩,?_⟩
   (repeat((conv=>whnf);refine aig ?_))<;>try(conv=>whnf)
   exact congrArg Value.bool (pb_t.2 (same_refl _ _))
theorem sh12_walk {W:World} {v0 v1 v2 v3 v4 v5:Value} {p:Prg} {y:List Rat} {v:Rat} {ch:List Int} {nu:List Int} {a:Int} (h0:Rob (fun _=>False) W (prgAv p 1048576) [v0]) (h1:Rob (fun _=>False) W (rlAv y 1048576) [v1]) (h2:Rob (fun _=>False) W (rAv v 1048576) [v2]) (h3:Rob (fun _=>False) W (ilAv ch) [v3]) (h4:Rob (fun _=>False) W (ilAv nu) [v4]) (h5:Rob (fun _=>False) W (.val (.int .u8 a)) [v5]) {n0 n1:Nat} (w0:Wt (prgN p) n0) (w1:Wt y n1) (b0:PB p 1048576) (l1:y.length≤1048576) (hn:n0 + n1≤1048576) (l3:ch.length≤1048576) (l4:nu.length≤1048576) (ha:0≤a∧a≤255) :
  Calls Tryz.prog 10 #[v0,v1,v2,v3,v4,v5] W (RetB W true):=
 call_b (fn_ok (own:=fun _=>False) (ctx_ok TT_ok [gprg_s,tnew_s,next_s,rROf_s,rRSign_s,rRNeg_s,wbnd_s,rRSub_s,first_s,aw12_s,sml_s,rIFromInt_s,csh_s,wsh_s,rSame_s]) mixed_ok (fn:=Tryz.f10) (by kernel_rfl) (sh12_x p y v 1048576 (6 * 1048576 + 3) b0 (sh_of (a:=n0) (b:=1048576 - n0) b0 w0 ((wt_take w1 20).mono (by omega)) (by rw [List.length_take];omega) (by decide) (by decide) (take_sz (rl_sz h1 (by decide)) (by decide)) (by omega) |> fun h=>by rw [show 6 * (n0 + (1048576 - n0)) + 3 = 6 * 1048576 + 3 by omega] at h;exact h) (by decide) (fun k=>ch.getD k 0) (fun k=>nu.getD k 0) ch.length nu.length l3 l4 a ha) (fun _ h=>h.elim) (.cons h0 (.cons h1 (.cons h2 (.cons h3 (.cons h4 (.cons h5 .nil)))))))
end Go.Proofs.YtfgkecffpkdjcaaGreat
