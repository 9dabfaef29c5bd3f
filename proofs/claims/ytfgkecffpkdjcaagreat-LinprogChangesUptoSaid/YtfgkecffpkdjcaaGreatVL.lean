/- Packages vector, linprog and reference 11 by the executor. -/
import Derived.Test.YtfgkecffpkdjcaaGreatVQ
import Derived.Test.YtfgkecffpkdjcaaGreatLP
namespace Go.Proofs.YtfgkecffpkdjcaaGreat
open Go.RowKit Gm Go.Vx
set_option maxRecDepth 100000
def entC (e:Int × Rat) (K:Nat):Av:=.cons (.val (.int .i64 e.1)) (.cons (.rat e.2 K) .nil)
def entsAv (es:List (Int × Rat)) (K:Nat):Av:=.list 4 es.length (fun k=>entC (es.getD k (0,0)) K)
def rowC (r:LRow) (K:Nat):Av:=.cons (.val (.int .i64 r.sense)) (.cons (.rat r.rhs K) (.cons (entsAv r.es K) .nil))
def colC (c:LCol) (K:Nat):Av:=.cons (.rat c.cost K) (.cons (.val (.bool c.hl)) (.cons (.rat c.lo K) (.cons (.val (.bool c.hu)) (.cons (.rat c.up K) .nil))))
def colsAv (l:List LCol) (K:Nat):Av:=.list 11 l.length (fun j=>colC (l.getD j colZ) K)
def rowsAv (l:List LRow) (K:Nat):Av:=.list 5 l.length (fun i=>rowC (l.getD i rowZ) K)
def prgAv (p:Prg) (K:Nat):Av:=.agg (.cons (colsAv p.cols K) (.cons (rowsAv p.rows K) .nil))
def rlAv (x:List Rat) (K:Nat):Av:=.list 3 x.length (fun j=>.cons (.rat (rg x j) K) .nil)
theorem ent_fit (e:Int × Rat) {K L:Nat} (h:K≤L):fitC (entC e L) (entC e K):=And.intro rfl (And.intro (And.intro rfl h) True.intro)
theorem ents_fit (es:List (Int × Rat)) {K L:Nat} (h:K≤L):fitC (entsAv es L) (.cons (entsAv es K) .nil):=And.intro rfl (And.intro rfl fun _ _=>ent_fit _ h)
theorem row_fit (r:LRow) {K L:Nat} (h:K≤L):fitC (rowC r L) (rowC r K):=And.intro rfl (And.intro (And.intro rfl h) (And.intro (ents_fit r.es h) True.intro))
theorem col_fit (c:LCol) {K L:Nat} (h:K≤L):fitC (colC c L) (colC c K):=And.intro (And.intro rfl h) (And.intro rfl (And.intro (And.intro rfl h) (And.intro rfl (And.intro (And.intro rfl h) True.intro))))
theorem prg_fit (p:Prg) {K L:Nat} (h:K≤L):fitC (prgAv p L) (.cons (prgAv p K) .nil):=And.intro (And.intro rfl (And.intro rfl fun _ _=>col_fit _ h)) (And.intro (And.intro rfl (And.intro rfl fun _ _=>row_fit _ h)) True.intro)
theorem rat_fit (v:Rat) {K L:Nat} (h:K≤L):fitC (.agg (.cons (.rat v L) .nil)) (.cons (.agg (.cons (.rat v K) .nil)) .nil):=And.intro (And.intro rfl h) True.intro
theorem rl_fit (x:List Rat) {K L:Nat} (h:K≤L):fitC (rlAv x L) (.cons (rlAv x K) .nil):=And.intro rfl (And.intro rfl fun _ _=>And.intro (And.intro rfl h) True.intro)
theorem sgq (q:Rat):(sgn q.num == 0) = true↔q = 0:=(sgz _).trans Rat.num_eq_zero
theorem sgt (r:Rat):decide (sgn r.num > 0) = pb (0 < r):=by rw [dec_pb];exact pb_congr sgn_pos
theorem slt (r:Rat):decide (sgn r.num < 0) = pb (r < 0):=by rw [dec_pb];exact pb_congr sgn_neg
theorem pbn {P:Prop} (h:(!pb P) = true):¬ P:=fun hp=>by rw [pb_t.2 hp] at h;cases h
theorem pbnf {P:Prop} (h:(!pb P) = false):P:=by
 cases hb:pb P with
 | true=>exact pb_t.1 hb
 | false=>rw [hb] at h;cases h
open Classical in
theorem ec_err {p:Prg} {l n:Nat} (h:(errV p != 0) = true):errC p l n = errV p:=if_neg (by simpa using h)
open Classical in
theorem ec_sh {p:Prg} {l n:Nat} (h:errV p = 0) (h2:((l:Int) != (n:Int)) = true):errC p l n = 4:=by
 unfold errC;rw [if_pos h,if_neg (by simp at h2;omega)]
theorem ec_ok {p:Prg} {l n:Nat} (h:errV p = 0) (h2:((l:Int) != (n:Int)) = false):errC p l n = 0:=errC_zero.2 ⟨errV_zero.1 h,by simp at h2;omega⟩
theorem asc_dec {a b:Int}:decide (a≥b) = false↔a < b:=by rw [decide_eq_false_iff_not];omega
structure PB (p:Prg) (K:Nat):Prop where
 c:p.cols.length≤1048576
 r:p.rows.length≤1048576
 e:∀ i,(p.row i).es.length≤1048576
 hK:K≤16777216
open Classical in
theorem errV_lim {p:Prg} (h:16384 < p.cols.length∨16384 < p.rows.length):errV p = 8:=if_pos h
open Classical in
theorem errV_cr {p:Prg} {j:Nat} (h:¬ (16384 < p.cols.length∨16384 < p.rows.length)) (hj:j < p.cols.length) (hc:Crossed (p.col j)):errV p = 3:=by
 unfold errV;rw [if_neg h,if_pos ⟨j,hj,hc⟩]
open Classical in
theorem errV_ro {p:Prg} {i:Nat} (h:¬ (16384 < p.cols.length∨16384 < p.rows.length)) (hc:∀ j,j < p.cols.length→¬ Crossed (p.col j)) (hi:i < p.rows.length) (hr:¬ RowOk (p.row i) p.cols.length):errV p = 1:=by
 unfold errV;rw [if_neg h,if_neg (fun ⟨j,h1,h2⟩=>hc j h1 h2),if_pos ⟨i,hi,hr⟩]
structure PX (p:Prg) (x:List Rat) (K M:Nat):Prop where
 b:PB p K
 hM:M≤67108864
 hm:2≤M
 o:∀ n,n≤p.cols.length→Sz (osum p x n) M
 a:∀ i n,n≤(p.row i).es.length→Sz (asum (p.row i) x n) M
def objAv (q:Rat) (M:Nat) (e:Int):Bool→Av
 | true=>.tup (.cons (qAv q M) (.cons (.val (.int .i64 0)) .nil))
 | false=>.tup (.cons zrAv (.cons (.val (.int .i64 e)) .nil))
theorem ec_nz {e:Int} {g:Bool} (hg:g = true↔e = 0) (h:g = false):(e != 0) = true:=by
 rw [bne_iff_ne];intro e0;rw [hg.2 e0] at h;cases h
theorem ec_z {e:Int} {g:Bool} (hg:g = true↔e = 0) (h:g = true):e = 0:=hg.1 h
structure AX (r:LRow) (x:List Rat) (K M:Nat):Prop where
 l:r.es.length≤1048576
 hK:K≤16777216
 hM:M≤67108864
 hm:2≤M
 ix:∀ k,k < r.es.length→0≤r.ix k∧r.ix k < x.length
 a:∀ n,n≤r.es.length→Sz (asum r x n) M
theorem PX.ax {p:Prg} {x:List Rat} {K M:Nat} (h:PX p x K M) (hv:Vld p) (hn:x.length = p.cols.length) {i:Nat} (hi:i < p.rows.length):AX (p.row i) x K M:=
 ⟨h.b.e i,h.b.hK,h.hM,h.hm,fun k hk=>by rw [hn];have:=(hv.ro i hi).2.2 k hk;exact ⟨this.1,this.2.1⟩,h.a i⟩
def madeAv (f:Nat→Rat) (n M:Nat):Av:=.list 3 n (fun i=>.cons (.ratC (f i) M) .nil)
def zero3:Av:=.cons (.kb false) (.cons (.val (.slice none 0 0)) (.cons (.val (.slice none 0 0)) .nil))
def nlAv (l:List Nat):Av:=.list 1 l.length (fun i=>.cons (.val (.int .i64 ((l.getD i 0:Nat):Int))) .nil)
def nilS:Av:=.val (.slice none 0 0)
def nl (l:List Nat) (i:Nat):Av:=.cons (.val (.int .i64 ((l.getD i 0:Nat):Int))) .nil
theorem nl_app {l:List Nat} {x:Nat} {X:Av} (hX:X = .val (.int .i64 (x:Int))):∀ i,i < (l ++ [x]).length→fitC (nl (l ++ [x]) i) (if i < l.length then nl l i else nthp .nil [.cons X .nil] (i - l.length)):=by
 intro i hi
 subst hX
 rw [List.length_append,List.length_singleton] at hi
 by_cases h1:i < l.length
 ·rw [if_pos h1]
  have e:(l ++ [x]).getD i 0 = l.getD i 0:=by
   rw [List.getD_eq_getElem?_getD,List.getD_eq_getElem?_getD,List.getElem?_append_left h1]
  show fitC (.cons (.val (.int .i64 (((l ++ [x]).getD i 0:Nat):Int))) .nil) _
  rw [e]
  exact And.intro rfl True.intro
 ·have h2:i - l.length = 0:=by omega
  have h3:i = l.length:=by omega
  rw [if_neg h1,h2]
  have e:(l ++ [x]).getD i 0 = x:=by
   rw [List.getD_eq_getElem?_getD,h3,List.getElem?_concat_length];rfl
  show fitC (.cons (.val (.int .i64 (((l ++ [x]).getD i 0:Nat):Int))) .nil) _
  rw [e]
  exact And.intro rfl True.intro
theorem nl_refl (l:List Nat):∀ i,i < l.length→fitC (nl l i) (nl l i):=fun _ _=>And.intro rfl True.intro
def actsAv (f:Nat→Rat) (n M:Nat) (e:Int):Bool→Av
 | true=>.tup (.cons (madeAv f n M) (.cons (.val (.int .i64 0)) .nil))
 | false=>.tup (.cons nilS (.cons (.val (.int .i64 e)) .nil))
def vioAv (a b:List Nat) (e:Int):Bool→Av
 | true=>.tup (.cons (nlAv a) (.cons (nlAv b) (.cons (.val (.int .i64 0)) .nil)))
 | false=>.tup (.cons nilS (.cons nilS (.cons (.val (.int .i64 e)) .nil)))
def partC (f:Nat→Rat) (M k i:Nat):Av:=if i < k then .cons (.ratC (f i) M) .nil else zero3
theorem part_zero (f:Nat→Rat) (M n:Nat):∀ i,i < n→fitC (partC f M 0 i) zero3:=fun _ _=>And.intro rfl (And.intro rfl (And.intro rfl True.intro))
theorem part_step {f:Nat→Rat} {M k n M':Nat} {q:Rat} {j:Nat} (hj:j = k) (hq:q = f k) (hM:M'≤M∨Sz q M):∀ i,i < n→fitC (partC f M (k + 1) i) (if i = j then .cons (.ratC q M') .nil else partC f M k i):=by
 intro i _
 subst hj hq
 by_cases h:i = j
 ·subst h
  rw [if_pos rfl];unfold partC;rw [if_pos (by omega)]
  exact And.intro (And.intro rfl hM) True.intro
 ·rw [if_neg h]
  unfold partC
  by_cases h2:i < j
  ·rw [if_pos h2,if_pos (by omega)];exact And.intro (And.intro rfl (.inl (Nat.le_refl _))) True.intro
  ·rw [if_neg h2,if_neg (by omega)];exact And.intro rfl (And.intro rfl (And.intro rfl True.intro))
theorem part_done {f:Nat→Rat} {M n:Nat}:∀ i,i < n→fitC (.cons (.ratC (f i) M) .nil) (partC f M n i):=by
 intro i hi
 unfold partC;rw [if_pos hi];exact And.intro (And.intro rfl (.inl (Nat.le_refl _))) True.intro
structure PY (p:Prg) (y:List Rat) (K M:Nat):Prop where
 b:PB p K
 hM:M≤67108864
 hm:2≤M
 r:∀ i j,i≤p.rows.length→Sz (redR p y i j) M
 e:∀ i k j,i < p.rows.length→k≤(p.row i).es.length→Sz (redE (p.row i) (rg y i) (redR p y i) k j) M
 h:∀ n,n≤p.rows.length→Sz (yrhs p y n) M
 s:∀ n,n≤p.cols.length→Sz (bsum p y n) M
theorem redR_skip {p:Prg} {y:List Rat} {i:Nat} (h:(sgn (rg y i).num == 0) = true):redR p y i = redR p y (i + 1):=(if_pos ((sgq _).1 h)).symm
theorem redR_do {p:Prg} {y:List Rat} {i:Nat} (h:(sgn (rg y i).num == 0) = false):redE (p.row i) (rg y i) (redR p y i) (p.row i).es.length = redR p y (i + 1):=(if_neg (fun h0=>by rw [(sgq _).2 h0] at h;cases h)).symm
def madeC (f:Nat→Rat) (M i:Nat):Av:=.cons (.ratC (f i) M) .nil
theorem made_refl (f:Nat→Rat) (M n:Nat):∀ i,i < n→fitC (madeC f M i) (madeC f M i):=fun _ _=>And.intro (And.intro rfl (.inl (Nat.le_refl _))) True.intro
theorem made_eq {f g:Nat→Rat} (h:f = g) (M n:Nat):∀ i,i < n→fitC (madeC f M i) (madeC g M i):=h ▸ made_refl f M n
theorem made_upd {r:LRow} {y:Rat} {d:Nat→Rat} {k M M' n j:Nat} {q:Rat} (hj:j = (r.ix k).toNat) (hq:q = redE r y d k j + -(y * r.vl k)) (hM:Sz (redE r y d (k + 1) j) M):∀ i,i < n→fitC (madeC (redE r y d (k + 1)) M i) (if i = j then .cons (.ratC q M') .nil else madeC (redE r y d k) M i):=by
 intro i _
 have e:redE r y d (k + 1) i = if i = j then redE r y d k j + -(y * r.vl k) else redE r y d k i:=by
  subst hj
  simp only [redE]
  split
  ·rename_i h;rw [h,Rat.sub_eq_add_neg]
  ·rfl
 by_cases h:i = j
 ·rw [if_pos h] at e ⊢
  subst h
  have e2:=hq.trans e.symm
  exact And.intro (And.intro e2 (.inr (e2 ▸ hM))) True.intro
 ·rw [if_neg h] at e ⊢
  exact And.intro (And.intro e.symm (.inl (Nat.le_refl _))) True.intro
theorem sne (r:Rat):(sgn r.num != 0) = pb (r≠0):=by
 cases h:(sgn r.num == 0) with
 | true=>rw [pb_f.2 (fun hn=>hn ((sgq r).1 h))];simp only [bne,h];rfl
 | false=>rw [pb_t.2 (fun e=>by rw [(sgq r).2 e] at h;cases h)];simp only [bne,h];rfl
theorem bs_succ (p:Prg) (y:List Rat) (j:Nat):bsum p y (j + 1) = bsum p y j + bterm p y j:=(Rat.add_assoc _ _ _).symm
theorem bs_pos {p:Prg} {y:List Rat} {j:Nat} (h:0 < red p y j):bsum p y j + red p y j * (p.col j).lo = bsum p y (j + 1):=by rw [bs_succ];unfold bterm;rw [if_pos h]
theorem bs_neg {p:Prg} {y:List Rat} {j:Nat} (h:red p y j < 0):bsum p y j + red p y j * (p.col j).up = bsum p y (j + 1):=by
 rw [bs_succ];unfold bterm;rw [if_neg (Rat.not_lt.2 (Rat.le_of_lt h)),if_pos h]
theorem bs_nil {p:Prg} {y:List Rat} {j:Nat} (h:red p y j = 0):bsum p y j = bsum p y (j + 1):=by
 rw [bs_succ];unfold bterm;rw [h,if_neg (by decide),if_neg (by decide),Rat.add_zero]
set_option smartUnfolding false in
theorem vasc_x (es:List (Int × Rat)) (K:Nat) (hl:es.length≤1073741824):fnOk ⟨TT,specsOf ([]:List (PSpec Tryz.prog))⟩ Tryz.f183 [entsAv es K] (.val (.bool (pb (Asc es)))):=by
 (repeat((conv=>whnf);refine ajg ?_))<;>try(conv=>whnf)
 refine ⟨⟨Nat,fun k=>1≤k∧(k≤es.length∨k = 1)∧∀ i,1≤i→i < k→(es.getD (i - 1) (0,0)).1 < (es.getD i (0,0)).1,fun k=>[.slot 3 (.val (.int .i64 (k:Int)))],fun k=>es.length - k,0⟩,1,⟨by omega,by omega,fun i h1 h2=>by omega⟩,?_⟩
 conv=>whnf
 refine And.intro ?_ ?_
 ·all_goals(repeat' first|exact ayg|apply And.intro|exact azg|fail)
 conv=>whnf
 rintro k ⟨h1,h2,h3⟩
 (repeat((conv=>whnf);refine ajg ?_))<;>try(conv=>whnf)
 refine And.intro (fun h4=>?_) (fun h4=>?_)
 ·have h5:(k:Int) < es.length:=of_decide_eq_true h4
  have w1:IntKind.i64.wrap ((k:Int) + 1) = (k:Int) + 1:=w64 (by omega) (by omega)
  have w2:IntKind.i64.wrap ((k:Int) - 1) = (k:Int) - 1:=w64 (by omega) (by omega)
  have t1:(IntKind.i64.wrap ((k:Int) - 1)).toNat = k - 1:=by rw [w2];omega
  have t2:(k:Int).toNat = k:=Int.toNat_natCast k
  (repeat((conv=>whnf);refine ajg ?_))<;>try(conv=>whnf)
  refine And.intro (fun h6=>?_) (fun h6=>?_)
  ·(repeat((conv=>whnf);refine ajg ?_))<;>try(conv=>whnf)
   rw [t1,t2] at h6
   exact congrArg Value.bool (pb_f.2 fun ha=>by have:=ha k h1 (by omega);have:=of_decide_eq_true h6;omega).symm
  ·rw [t1,t2] at h6
   (repeat((conv=>whnf);refine ajg ?_))<;>try(conv=>whnf)
   refine ⟨k + 1,⟨by omega,by omega,fun i hi1 hi2=>?_⟩,(show es.length - (k + 1) < es.length - k by omega),?_⟩
   ·rcases Nat.lt_or_ge i k with hik | hik
    ·exact h3 i hi1 hik
    ·rw [show i = k by omega];exact asc_dec.1 h6
   conv=>whnf
   all_goals(repeat' first|exact ayg|apply And.intro|exact azg|fail)
 ·have h5:¬ (k:Int) < es.length:=of_decide_eq_false h4
  (repeat((conv=>whnf);refine ajg ?_))<;>try(conv=>whnf)
  exact congrArg Value.bool (pb_t.2 fun i hi1 hi2=>h3 i hi1 (by omega)).symm
noncomputable def vasc_s:PSpec Tryz.prog:=⟨183,ghSpec (List (Int × Rat) × Nat) (fun | (c0,c1)=>[entsAv c0 c1]) (fun | (c0,_)=>c0.length≤1073741824) (fun | (c0,_)=>.val (.bool (pb (Asc c0)))),ghSpec_ok (fn:=Tryz.f183) (ctx_ok TT_ok ([]:List (PSpec Tryz.prog))) mixed_ok (by kernel_rfl) (fun | (c0,c1),hp=>vasc_x c0 c1 hp),by kernel_rfl⟩
set_option smartUnfolding false in
theorem vval_x (es:List (Int × Rat)) (K n:Nat) (hl:es.length≤1073741824) (hK:K≤1073741824):fnOk ⟨TT,specsOf [vasc_s,RSign_s]⟩ Tryz.f146 [entsAv es K,.val (.int .i64 (n:Int))] (.val (.bool (pb (EntOk es n)))):=by
 (repeat((conv=>whnf);refine ajg ?_))<;>try(conv=>whnf)
 refine ⟨(es,K),⟨hl,And.intro (ents_fit es (Nat.le_refl K)) True.intro⟩,?_⟩
 (repeat((conv=>whnf);refine ajg ?_))<;>try(conv=>whnf)
 refine And.intro (fun h1=>?_) (fun h1=>?_)
 ·(repeat((conv=>whnf);refine ajg ?_))<;>try(conv=>whnf)
  exact congrArg Value.bool (pb_f.2 fun ha=>by rw [pb_t.2 ha.1] at h1;cases h1).symm
 have hasc:Asc es:=by
  cases hb:pb (Asc es) with
  | true=>exact pb_t.1 hb
  | false=>rw [hb] at h1;cases h1
 (repeat((conv=>whnf);refine ajg ?_))<;>try(conv=>whnf)
 refine ⟨⟨Nat,fun k=>k≤es.length∧∀ i,i < k→0≤(es.getD i (0,0)).1∧(es.getD i (0,0)).1 < n∧(es.getD i (0,0)).2≠0,fun k=>[.slot 12 (.val (.int .i64 (k:Int)))],fun k=>es.length - k,0⟩,0,⟨by omega,fun i h2=>by omega⟩,?_⟩
 conv=>whnf
 refine And.intro ?_ ?_
 ·all_goals(repeat' first|exact ayg|apply And.intro|exact azg|fail)
 conv=>whnf
 rintro k ⟨h2,h3⟩
 (repeat((conv=>whnf);refine ajg ?_))<;>try(conv=>whnf)
 refine And.intro (fun h4=>?_) (fun h4=>?_)
 ·have h5:(k:Int) < es.length:=of_decide_eq_true h4
  have w1:IntKind.i64.wrap ((k:Int) + 1) = (k:Int) + 1:=w64 (by omega) (by omega)
  have t2:(k:Int).toNat = k:=Int.toNat_natCast k
  have no:((0≤(es.getD k (0,0)).1∧(es.getD k (0,0)).1 < n∧(es.getD k (0,0)).2≠0)→False)→pb (EntOk es n) = false:=fun hn=>pb_f.2 fun ha=>hn (ha.2 k (by omega))
  (repeat((conv=>whnf);refine ajg ?_))<;>try(conv=>whnf)
  refine And.intro (fun h6=>?_) (fun h6=>?_)
  ·(repeat((conv=>whnf);refine ajg ?_))<;>try(conv=>whnf)
   rw [t2] at h6
   exact congrArg Value.bool (no fun ha=>by have:=of_decide_eq_true h6;omega).symm
  rw [t2] at h6
  (repeat((conv=>whnf);refine ajg ?_))<;>try(conv=>whnf)
  refine And.intro (fun h7=>?_) (fun h7=>?_)
  ·(repeat((conv=>whnf);refine ajg ?_))<;>try(conv=>whnf)
   rw [t2] at h7
   exact congrArg Value.bool (no fun ha=>by have:=of_decide_eq_true h7;omega).symm
  rw [t2] at h7
  (repeat((conv=>whnf);refine ajg ?_))<;>try(conv=>whnf)
  refine And.intro (fun h8=>?_) (fun h8=>?_)
  ·(repeat((conv=>whnf);refine ajg ?_))<;>try(conv=>whnf)
   exact congrArg Value.bool (no fun ha=>ha.2.2 ((sgq _).1 h8)).symm
  (repeat((conv=>whnf);refine ajg ?_))<;>try(conv=>whnf)
  refine ⟨k + 1,⟨by omega,fun i hi=>?_⟩,(show es.length - (k + 1) < es.length - k by omega),?_⟩
  ·rcases Nat.lt_or_ge i k with hik | hik
   ·exact h3 i hik
   ·rw [show i = k by omega]
    have a1:=of_decide_eq_false h6
    have a2:=of_decide_eq_false h7
    exact ⟨by omega,by omega,fun e=>by have:=(sgq _).2 e;rw [show (k:Int).toNat = k from rfl] at h8;rw [this] at h8;cases h8⟩
  conv=>whnf
  all_goals(repeat' first|exact ayg|apply And.intro|exact azg|fail)
 ·have h5:¬ (k:Int) < es.length:=of_decide_eq_false h4
  (repeat((conv=>whnf);refine ajg ?_))<;>try(conv=>whnf)
  exact congrArg Value.bool (pb_t.2 ⟨hasc,fun i hi=>h3 i (by omega)⟩).symm
noncomputable def vval_s:PSpec Tryz.prog:=⟨146,ghSpec ((List (Int × Rat) × Nat) × Nat) (fun | ((c0,c1),c2)=>[entsAv c0 c1,.val (.int .i64 (c2:Int))]) (fun | ((c0,c1),_)=>c0.length≤1073741824∧c1≤1073741824) (fun | ((c0,_),c2)=>.val (.bool (pb (EntOk c0 c2)))),ghSpec_ok (fn:=Tryz.f146) (ctx_ok TT_ok [vasc_s,RSign_s]) mixed_ok (by kernel_rfl) (fun | ((c0,c1),c2),hp=>vval_x c0 c1 c2 hp.1 hp.2),by kernel_rfl⟩
set_option smartUnfolding false in
theorem lcr_x (c:LCol) (K:Nat) (hK:K≤134217728):fnOk ⟨TT,specsOf [RCmp_s]⟩ Tryz.f96 [.agg (colC c K)] (.val (.bool (pb (Crossed c)))):=by
 obtain ⟨cost,hl,lo,hu,up⟩:=c
 repeat' (first|(refine And.intro (fun _=>?_) (fun _=>?_))|((conv=>whnf);refine akg ?_))
 all_goals (try(conv=>whnf))
 all_goals (refine congrArg Value.bool (pb_of ?_).symm)
 all_goals (simp_all [Crossed,cmpR_gt])
noncomputable def lcr_s:PSpec Tryz.prog:=⟨96,ghSpec (LCol × Nat) (fun | (c0,c1)=>[.agg (colC c0 c1)]) (fun | (_,c1)=>c1≤134217728) (fun | (c0,_)=>.val (.bool (pb (Crossed c0)))),ghSpec_ok (fn:=Tryz.f96) (ctx_ok TT_ok [RCmp_s]) mixed_ok (by kernel_rfl) (fun | (c0,c1),hp=>lcr_x c0 c1 hp),by kernel_rfl⟩
set_option smartUnfolding false in
theorem lse_x (s:Int):fnOk ⟨TT,specsOf ([]:List (PSpec Tryz.prog))⟩ Tryz.f145 [.val (.int .i64 s)] (.val (.bool (pb (SenseOk s)))):=by
 repeat' (first|(refine And.intro (fun _=>?_) (fun _=>?_))|((conv=>whnf);refine akg ?_))
 all_goals (try(conv=>whnf))
 all_goals (refine congrArg Value.bool (pb_of ?_).symm)
 all_goals (simp_all [SenseOk])
noncomputable def lse_s:PSpec Tryz.prog:=⟨145,spI (fun s=>.val (.bool (pb (SenseOk s)))) (fun _=>True),spI_ok fun _ _ s ho _=>fn_ok (ctx_ok TT_ok ([]:List (PSpec Tryz.prog))) mixed_ok (fn:=Tryz.f145) (by kernel_rfl) (lse_x s) ho (.cons (fun _ _=>rfl) .nil),by kernel_rfl⟩
set_option smartUnfolding false in
theorem lval_x (p:Prg) (K:Nat) (hb:PB p K):fnOk ⟨TT,specsOf [lcr_s,lse_s,vval_s]⟩ Tryz.f82 [prgAv p K] (.val (.int .i64 (errV p))):=by
 have b1:=hb.c
 have b2:=hb.r
 have b4:=hb.hK
 have hzero:(h0:¬ (16384 < p.cols.length∨16384 < p.rows.length))→(∀ j,j < p.cols.length→¬ Crossed (p.col j))→(∀ i,i < p.rows.length→RowOk (p.row i) p.cols.length)→errV p = 0:=fun h0 h1 h2=>errV_zero.2 ⟨by omega,by omega,h1,h2⟩
 (repeat((conv=>whnf);refine ajg ?_))<;>try(conv=>whnf)
 refine And.intro (fun h1=>?_) (fun h1=>?_)
 ·(repeat((conv=>whnf);refine ajg ?_))<;>try(conv=>whnf)
  exact congrArg (Value.int IntKind.i64) (errV_lim (.inl (by have:=of_decide_eq_true h1;omega))).symm
 have h1':=of_decide_eq_false h1
 (repeat((conv=>whnf);refine ajg ?_))<;>try(conv=>whnf)
 refine And.intro (fun h2=>?_) (fun h2=>?_)
 ·(repeat((conv=>whnf);refine ajg ?_))<;>try(conv=>whnf)
  exact congrArg (Value.int IntKind.i64) (errV_lim (.inr (by have:=of_decide_eq_true h2;omega))).symm
 have h2':=of_decide_eq_false h2
 have hlim:¬ (16384 < p.cols.length∨16384 < p.rows.length):=by omega
 (repeat((conv=>whnf);refine ajg ?_))<;>try(conv=>whnf)
 refine ⟨⟨Nat,fun k=>k≤p.cols.length∧∀ j,j < k→¬ Crossed (p.col j),fun k=>[.slot 20 (.val (.int .i64 (k:Int)))],fun k=>p.cols.length - k,0⟩,0,⟨by omega,fun i h2=>by omega⟩,?_⟩
 conv=>whnf
 refine And.intro ?_ ?_
 ·all_goals(repeat' first|exact ayg|apply And.intro|exact azg|fail)
 conv=>whnf
 rintro k ⟨h3,h4⟩
 (repeat((conv=>whnf);refine ajg ?_))<;>try(conv=>whnf)
 refine And.intro (fun h5=>?_) (fun h5=>?_)
 ·have h6:(k:Int) < p.cols.length:=of_decide_eq_true h5
  have w1:IntKind.i64.wrap ((k:Int) + 1) = (k:Int) + 1:=w64 (by omega) (by omega)
  (repeat((conv=>whnf);refine ajg ?_))<;>try(conv=>whnf)
  refine ⟨(p.col k,K),⟨by omega,And.intro (col_fit (p.col k) (Nat.le_refl K)) True.intro⟩,?_⟩
  (repeat((conv=>whnf);refine ajg ?_))<;>try(conv=>whnf)
  refine And.intro (fun h7=>?_) (fun h7=>?_)
  ·(repeat((conv=>whnf);refine ajg ?_))<;>try(conv=>whnf)
   exact congrArg (Value.int IntKind.i64) (errV_cr hlim (j:=k) (by omega) (pb_t.1 h7)).symm
  ·(repeat((conv=>whnf);refine ajg ?_))<;>try(conv=>whnf)
   refine ⟨k + 1,⟨by omega,fun i hi=>?_⟩,(show p.cols.length - (k + 1) < p.cols.length - k by omega),?_⟩
   ·rcases Nat.lt_or_ge i k with hik | hik
    ·exact h4 i hik
    ·rw [show i = k by omega];exact pb_f.1 h7
   conv=>whnf
   all_goals(repeat' first|exact ayg|apply And.intro|exact azg|fail)
 have h6:¬ (k:Int) < p.cols.length:=of_decide_eq_false h5
 have hcr:∀ j,j < p.cols.length→¬ Crossed (p.col j):=fun j hj=>h4 j (by omega)
 (repeat((conv=>whnf);refine ajg ?_))<;>try(conv=>whnf)
 refine ⟨⟨Nat,fun k=>k≤p.rows.length∧∀ i,i < k→RowOk (p.row i) p.cols.length,fun k=>[.slot 30 (.val (.int .i64 (k:Int)))],fun k=>p.rows.length - k,0⟩,0,⟨by omega,fun i h2=>by omega⟩,?_⟩
 conv=>whnf
 refine And.intro ?_ ?_
 ·all_goals(repeat' first|exact ayg|apply And.intro|exact azg|fail)
 conv=>whnf
 rintro i ⟨h7,h8⟩
 (repeat((conv=>whnf);refine ajg ?_))<;>try(conv=>whnf)
 refine And.intro (fun h9=>?_) (fun h9=>?_)
 ·have h10:(i:Int) < p.rows.length:=of_decide_eq_true h9
  have w1:IntKind.i64.wrap ((i:Int) + 1) = (i:Int) + 1:=w64 (by omega) (by omega)
  have b3:=hb.e i
  (repeat((conv=>whnf);refine ajg ?_))<;>try(conv=>whnf)
  refine And.intro (fun h11=>?_) (fun h11=>?_)
  ·(repeat((conv=>whnf);refine ajg ?_))<;>try(conv=>whnf)
   exact congrArg (Value.int IntKind.i64) (errV_ro hlim hcr (i:=i) (by omega) (fun hr=>pbn h11 hr.1)).symm
  have s1:SenseOk (p.row i).sense:=pbnf h11
  (repeat((conv=>whnf);refine ajg ?_))<;>try(conv=>whnf)
  refine ⟨(((p.row i).es,K),p.cols.length),⟨⟨Nat.le_trans b3 (by decide),Nat.le_trans b4 (by decide)⟩,And.intro (ents_fit _ (Nat.le_refl K)) (And.intro rfl True.intro)⟩,?_⟩
  (repeat((conv=>whnf);refine ajg ?_))<;>try(conv=>whnf)
  refine And.intro (fun h12=>?_) (fun h12=>?_)
  ·(repeat((conv=>whnf);refine ajg ?_))<;>try(conv=>whnf)
   exact congrArg (Value.int IntKind.i64) (errV_ro hlim hcr (i:=i) (by omega) (fun hr=>pbn h12 hr.2)).symm
  have s2:EntOk (p.row i).es p.cols.length:=pbnf h12
  (repeat((conv=>whnf);refine ajg ?_))<;>try(conv=>whnf)
  refine ⟨i + 1,⟨by omega,fun i' hi=>?_⟩,(show p.rows.length - (i + 1) < p.rows.length - i by omega),?_⟩
  ·rcases Nat.lt_or_ge i' i with hik | hik
   ·exact h8 i' hik
   ·rw [show i' = i by omega];exact ⟨s1,s2⟩
  conv=>whnf
  all_goals(repeat' first|exact ayg|apply And.intro|exact azg|fail)
 ·have h10:¬ (i:Int) < p.rows.length:=of_decide_eq_false h9
  (repeat((conv=>whnf);refine ajg ?_))<;>try(conv=>whnf)
  exact congrArg (Value.int IntKind.i64) (hzero hlim hcr fun i hi=>h8 i (by omega)).symm
noncomputable def lval_s:PSpec Tryz.prog:=⟨82,ghSpec (Prg × Nat) (fun | (c0,c1)=>[prgAv c0 c1]) (fun | (c0,c1)=>PB c0 c1) (fun | (c0,_)=>.val (.int .i64 (errV c0))),ghSpec_ok (fn:=Tryz.f82) (ctx_ok TT_ok [lcr_s,lse_s,vval_s]) mixed_ok (by kernel_rfl) (fun | (c0,c1),hp=>lval_x c0 c1 hp),by kernel_rfl⟩
set_option smartUnfolding false in
theorem lchk_x (p:Prg) (x:List Rat) (n K:Nat) (hb:PB p K):fnOk ⟨TT,specsOf [lval_s]⟩ Tryz.f76 [prgAv p K,rlAv x K,.val (.int .i64 (n:Int))] (.val (.int .i64 (errC p x.length n))):=by
 (repeat((conv=>whnf);refine ajg ?_))<;>try(conv=>whnf)
 refine ⟨(p,K),⟨hb,And.intro (prg_fit p (Nat.le_refl K)) True.intro⟩,?_⟩
 (repeat((conv=>whnf);refine ajg ?_))<;>try(conv=>whnf)
 refine And.intro (fun h1=>?_) (fun h1=>?_)
 ·(repeat((conv=>whnf);refine ajg ?_))<;>try(conv=>whnf)
  exact congrArg (Value.int IntKind.i64) (ec_err h1).symm
 have h2:errV p = 0:=by simpa using h1
 (repeat((conv=>whnf);refine ajg ?_))<;>try(conv=>whnf)
 refine And.intro (fun h3=>?_) (fun h3=>?_)
 ·(repeat((conv=>whnf);refine ajg ?_))<;>try(conv=>whnf)
  exact congrArg (Value.int IntKind.i64) (ec_sh h2 h3).symm
 ·(repeat((conv=>whnf);refine ajg ?_))<;>try(conv=>whnf)
  exact congrArg (Value.int IntKind.i64) (ec_ok h2 h3).symm
noncomputable def lchk_s:PSpec Tryz.prog:=⟨76,ghSpec (((Prg × List Rat) × Nat) × Nat) (fun | (((c0,c1),c2),c3)=>[prgAv c0 c2,rlAv c1 c2,.val (.int .i64 (c3:Int))]) (fun | (((c0,_),c2),_)=>PB c0 c2) (fun | (((c0,c1),_),c3)=>.val (.int .i64 (errC c0 c1.length c3))),ghSpec_ok (fn:=Tryz.f76) (ctx_ok TT_ok [lval_s]) mixed_ok (by kernel_rfl) (fun | (((c0,c1),c2),c3),hp=>lchk_x c0 c1 c3 c2 hp),by kernel_rfl⟩
set_option smartUnfolding false in
theorem lobj_x (p:Prg) (x:List Rat) (K M:Nat) (g:Bool) (hx:PX p x K M) (hg:g = true↔errC p x.length p.cols.length = 0):fnOk ⟨TT,specsOf [lchk_s,RFI_s,RMul_s,RAdd_s]⟩ Tryz.f25 [prgAv p K,rlAv x K] (objAv (obj p x) M (errC p x.length p.cols.length) g):=by
 have b1:=hx.b.c
 have b4:=hx.b.hK
 have b5:=hx.hM
 have b6:=hx.hm
 cases hgb:g with
 | false=>
   have hne:=ec_nz hg hgb
   (repeat((conv=>whnf);refine ajg ?_))<;>try(conv=>whnf)
   refine ⟨(((p,x),K),p.cols.length),⟨hx.b,And.intro (prg_fit p (Nat.le_refl K)) (And.intro (rl_fit x (Nat.le_refl K)) (And.intro rfl True.intro))⟩,?_⟩
   (repeat((conv=>whnf);refine ajg ?_))<;>try(conv=>whnf)
   refine And.intro (fun h1=>?_) (fun h1=>absurd (hne.symm.trans h1) (by decide))
   (repeat((conv=>whnf);refine ajg ?_))<;>try(conv=>whnf)
   all_goals(repeat' first|exact ayg|apply And.intro|exact azg|fail)
 | true=>
   have he:=ec_z hg hgb
   have hlen:x.length = p.cols.length:=(errC_zero.1 he).2
   (repeat((conv=>whnf);refine ajg ?_))<;>try(conv=>whnf)
   refine ⟨(((p,x),K),p.cols.length),⟨hx.b,And.intro (prg_fit p (Nat.le_refl K)) (And.intro (rl_fit x (Nat.le_refl K)) (And.intro rfl True.intro))⟩,?_⟩
   (repeat((conv=>whnf);refine ajg ?_))<;>try(conv=>whnf)
   refine And.intro (fun h1=>absurd h1 (by rw [show errC p x.length p.cols.length = 0 from he];decide)) (fun h1=>?_)
   (repeat((conv=>whnf);refine ajg ?_))<;>try(conv=>whnf)
   refine ⟨⟨Nat,fun k=>k≤p.cols.length,fun k=>[.slot 24 (.val (.int .i64 (k:Int))),.obj 7 (.cons (.ratC (osum p x k) M) .nil)],fun k=>p.cols.length - k,0⟩,0,Nat.zero_le _,?_⟩
   conv=>whnf
   refine And.intro ?_ ?_
   ·all_goals(repeat' first|exact ayg|apply And.intro|exact azg|fail)
   conv=>whnf
   rintro k h2
   (repeat((conv=>whnf);refine ajg ?_))<;>try(conv=>whnf)
   refine And.intro (fun h5=>?_) (fun h5=>?_)
   ·have h6:(k:Int) < p.cols.length:=of_decide_eq_true h5
    have w1:IntKind.i64.wrap ((k:Int) + 1) = (k:Int) + 1:=w64 (by omega) (by omega)
    have hs:=hx.o (k + 1) (by omega)
    (repeat((conv=>whnf);refine ajg ?_))<;>try(conv=>whnf)
    refine ⟨k + 1,(show k + 1≤p.cols.length by omega),(show p.cols.length - (k + 1) < p.cols.length - k by omega),?_⟩
    conv=>whnf
    all_goals(repeat' first|exact ayg|apply And.intro|exact azg|fail)
   ·have h6:¬ (k:Int) < p.cols.length:=of_decide_eq_false h5
    obtain rfl:k = p.cols.length:=by omega
    (repeat((conv=>whnf);refine ajg ?_))<;>try(conv=>whnf)
    all_goals(repeat' first|exact ayg|apply And.intro|exact azg|fail)
noncomputable def lobj_s:PSpec Tryz.prog:=⟨25,ghSpec ((((Prg × List Rat) × Nat) × Nat) × Bool) (fun | ((((c0,c1),c2),_),_)=>[prgAv c0 c2,rlAv c1 c2]) (fun | ((((c0,c1),c2),c3),c4)=>PX c0 c1 c2 c3∧(c4 = true↔errC c0 c1.length c0.cols.length = 0)) (fun | ((((c0,c1),_),c3),c4)=>objAv (obj c0 c1) c3 (errC c0 c1.length c0.cols.length) c4),ghSpec_ok (fn:=Tryz.f25) (ctx_ok TT_ok [lchk_s,RFI_s,RMul_s,RAdd_s]) mixed_ok (by kernel_rfl) (fun | ((((c0,c1),c2),c3),c4),hp=>lobj_x c0 c1 c2 c3 c4 hp.1 hp.2),by kernel_rfl⟩
set_option smartUnfolding false in
theorem lact_x (r:LRow) (x:List Rat) (K M:Nat) (hx:AX r x K M):fnOk ⟨TT,specsOf [RFI_s,RSign_s,RMul_s,RAdd_s]⟩ Tryz.f151 [.agg (rowC r K),rlAv x K] (qAv (act r x) M):=by
 have b1:=hx.l
 have b4:=hx.hK
 have b5:=hx.hM
 have b6:=hx.hm
 (repeat((conv=>whnf);refine ajg ?_))<;>try(conv=>whnf)
 refine ⟨⟨Nat,fun k=>k≤r.es.length,fun k=>[.slot 12 (.val (.int .i64 (k:Int))),.obj 5 (.cons (.ratC (asum r x k) M) .nil)],fun k=>r.es.length - k,0⟩,0,Nat.zero_le _,?_⟩
 conv=>whnf
 refine And.intro ?_ ?_
 ·all_goals(repeat' first|exact ayg|apply And.intro|exact azg|fail)
 conv=>whnf
 rintro k h2
 (repeat((conv=>whnf);refine ajg ?_))<;>try(conv=>whnf)
 refine And.intro (fun h5=>?_) (fun h5=>?_)
 ·have h6:(k:Int) < r.es.length:=of_decide_eq_true h5
  have w1:IntKind.i64.wrap ((k:Int) + 1) = (k:Int) + 1:=w64 (by omega) (by omega)
  have hs:=hx.a (k + 1) (by omega)
  have hix:=hx.ix k (by omega)
  unfold LRow.ix at hix
  (repeat((conv=>whnf);refine ajg ?_))<;>try(conv=>whnf)
  refine And.intro hix ?_
  (repeat((conv=>whnf);refine ajg ?_))<;>try(conv=>whnf)
  refine And.intro (fun h7=>?_) (fun h7=>?_)
  ·(repeat((conv=>whnf);refine ajg ?_))<;>try(conv=>whnf)
   refine And.intro hix ?_
   (repeat((conv=>whnf);refine ajg ?_))<;>try(conv=>whnf)
   refine ⟨k + 1,(show k + 1≤r.es.length by omega),(show r.es.length - (k + 1) < r.es.length - k by omega),?_⟩
   conv=>whnf
   all_goals(repeat' first|exact ayg|apply And.intro|exact azg|fail)
  ·have h8:rg x (r.ix k).toNat = 0:=by
    rw [bne_eq_false_iff_eq] at h7
    exact (sgq _).1 (beq_iff_eq.2 h7)
   have e:asum r x k = asum r x (k + 1):=by show _ = asum r x k + r.vl k * rg x (r.ix k).toNat;rw [h8,Rat.mul_zero,Rat.add_zero]
   (repeat((conv=>whnf);refine ajg ?_))<;>try(conv=>whnf)
   refine ⟨k + 1,(show k + 1≤r.es.length by omega),(show r.es.length - (k + 1) < r.es.length - k by omega),?_⟩
   conv=>whnf
   all_goals(repeat' first|exact ayg|apply And.intro|exact azg|fail)
 ·have h6:¬ (k:Int) < r.es.length:=of_decide_eq_false h5
  obtain rfl:k = r.es.length:=by omega
  (repeat((conv=>whnf);refine ajg ?_))<;>try(conv=>whnf)
  all_goals(repeat' first|exact ayg|apply And.intro|exact azg|fail)
noncomputable def lact_s:PSpec Tryz.prog:=⟨151,ghSpec (((LRow × List Rat) × Nat) × Nat) (fun | (((c0,c1),c2),_)=>[.agg (rowC c0 c2),rlAv c1 c2]) (fun | (((c0,c1),c2),c3)=>AX c0 c1 c2 c3) (fun | (((c0,c1),_),c3)=>qAv (act c0 c1) c3),ghSpec_ok (fn:=Tryz.f151) (ctx_ok TT_ok [RFI_s,RSign_s,RMul_s,RAdd_s]) mixed_ok (by kernel_rfl) (fun | (((c0,c1),c2),c3),hp=>lact_x c0 c1 c2 c3 hp),by kernel_rfl⟩
set_option smartUnfolding false in
theorem lout_x (c:LCol) (v:Rat) (K:Nat) (hK:K≤134217728):fnOk ⟨TT,specsOf [RCmp_s]⟩ Tryz.f147 [.agg (colC c K),.agg (.cons (.rat v K) .nil)] (.val (.bool (pb (OutB c v)))):=by
 obtain ⟨cost,hl,lo,hu,up⟩:=c
 repeat' (first|(refine And.intro (fun _=>?_) (fun _=>?_))|((conv=>whnf);refine akg ?_))
 all_goals (try(conv=>whnf))
 all_goals (refine congrArg Value.bool (pb_of ?_).symm)
 all_goals (simp_all [OutB,cmpR_gt,cmpR_lt])
noncomputable def lout_s:PSpec Tryz.prog:=⟨147,ghSpec ((LCol × Rat) × Nat) (fun | ((c0,c1),c2)=>[.agg (colC c0 c2),.agg (.cons (.rat c1 c2) .nil)]) (fun | ((_,_),c2)=>c2≤134217728) (fun | ((c0,c1),_)=>.val (.bool (pb (OutB c0 c1)))),ghSpec_ok (fn:=Tryz.f147) (ctx_ok TT_ok [RCmp_s]) mixed_ok (by kernel_rfl) (fun | ((c0,c1),c2),hp=>lout_x c0 c1 c2 hp),by kernel_rfl⟩
set_option smartUnfolding false in
theorem lbrk_x (r:LRow) (x:List Rat) (K M:Nat) (hx:AX r x K M):fnOk ⟨TT,specsOf [lact_s,RCmp_s]⟩ Tryz.f148 [.agg (rowC r K),rlAv x K] (.val (.bool (pb (Broken r (act r x))))):=by
 have b4:=hx.hK
 have b5:=hx.hM
 (repeat((conv=>whnf);refine ajg ?_))<;>try(conv=>whnf)
 refine ⟨(((r,x),K),M),⟨hx,And.intro (row_fit r (Nat.le_refl K)) (And.intro (rl_fit x (Nat.le_refl K)) True.intro)⟩,?_⟩
 repeat' (first|(refine And.intro (fun _=>?_) (fun _=>?_))|((conv=>whnf);refine akg ?_))
 all_goals (try(conv=>whnf))
 all_goals (refine congrArg Value.bool (pb_of ?_).symm)
 all_goals (simp_all [Broken,cmpR_gt,cmpR_lt])
noncomputable def lbrk_s:PSpec Tryz.prog:=⟨148,ghSpec (((LRow × List Rat) × Nat) × Nat) (fun | (((c0,c1),c2),_)=>[.agg (rowC c0 c2),rlAv c1 c2]) (fun | (((c0,c1),c2),c3)=>AX c0 c1 c2 c3) (fun | (((c0,c1),_),_)=>.val (.bool (pb (Broken c0 (act c0 c1))))),ghSpec_ok (fn:=Tryz.f148) (ctx_ok TT_ok [lact_s,RCmp_s]) mixed_ok (by kernel_rfl) (fun | (((c0,c1),c2),c3),hp=>lbrk_x c0 c1 c2 c3 hp),by kernel_rfl⟩
set_option smartUnfolding false in
theorem lvio_x (p:Prg) (x:List Rat) (K M:Nat) (g:Bool) (hx:PX p x K M) (hg:g = true↔errC p x.length p.cols.length = 0):fnOk ⟨TT,specsOf [lchk_s,lout_s,lbrk_s]⟩ Tryz.f84 [prgAv p K,rlAv x K] (vioAv (vcols p x p.cols.length) (vrows p x p.rows.length) (errC p x.length p.cols.length) g):=by
 have b0:=hx.b.c
 have b1:=hx.b.r
 have b4:=hx.b.hK
 have b5:=hx.hM
 have b6:=hx.hm
 cases hgb:g with
 | false=>
   have hne:=ec_nz hg hgb
   (repeat((conv=>whnf);refine ajg ?_))<;>try(conv=>whnf)
   refine ⟨(((p,x),K),p.cols.length),⟨hx.b,And.intro (prg_fit p (Nat.le_refl K)) (And.intro (rl_fit x (Nat.le_refl K)) (And.intro rfl True.intro))⟩,?_⟩
   (repeat((conv=>whnf);refine ajg ?_))<;>try(conv=>whnf)
   refine And.intro (fun h1=>?_) (fun h1=>absurd (hne.symm.trans h1) (by decide))
   (repeat((conv=>whnf);refine ajg ?_))<;>try(conv=>whnf)
   all_goals(repeat' first|exact ayg|apply And.intro|exact azg|fail)
 | true=>
   have he:=ec_z hg hgb
   have hlen:x.length = p.cols.length:=(errC_zero.1 he).2
   have hv:=(errC_zero.1 he).1
   (repeat((conv=>whnf);refine ajg ?_))<;>try(conv=>whnf)
   refine ⟨(((p,x),K),p.cols.length),⟨hx.b,And.intro (prg_fit p (Nat.le_refl K)) (And.intro (rl_fit x (Nat.le_refl K)) (And.intro rfl True.intro))⟩,?_⟩
   (repeat((conv=>whnf);refine ajg ?_))<;>try(conv=>whnf)
   refine And.intro (fun h1=>absurd h1 (by rw [show errC p x.length p.cols.length = 0 from he];decide)) (fun h1=>?_)
   (repeat((conv=>whnf);refine ajg ?_))<;>try(conv=>whnf)
   refine ⟨⟨Nat,fun k=>k≤p.cols.length,fun k=>[.slot 24 (.val (.int .i64 (k:Int))),.own 4 3 1 (vcols p x k).length (nl (vcols p x k)),.slot 4 (.row 4)],fun k=>p.cols.length - k,0⟩,0,Nat.zero_le _,?_⟩
   conv=>whnf
   refine And.intro ?_ ?_
   ·all_goals(repeat' first|exact ayg|apply And.intro|exact azg|fail)
   conv=>whnf
   rintro k h2
   (repeat((conv=>whnf);refine ajg ?_))<;>try(conv=>whnf)
   refine And.intro (fun h5=>?_) (fun h5=>?_)
   ·have h6:(k:Int) < p.cols.length:=of_decide_eq_true h5
    have w1:IntKind.i64.wrap ((k:Int) + 1) = (k:Int) + 1:=w64 (by omega) (by omega)
    have hl:=idxs_len (fun j=>OutB (p.col j) (rg x j)) k
    change (vcols p x k).length≤k at hl
    have hsucc:vcols p x (k + 1) = vcols p x k ++ (if pb (OutB (p.col k) (rg x k)) = true then [k] else []):=idxs_succ _ k
    (repeat((conv=>whnf);refine ajg ?_))<;>try(conv=>whnf)
    refine ⟨((p.col k,rg x k),K),⟨Nat.le_trans b4 (by decide),And.intro (col_fit (p.col k) (Nat.le_refl K)) (And.intro (rat_fit _ (Nat.le_refl K)) True.intro)⟩,?_⟩
    (repeat((conv=>whnf);refine ajg ?_))<;>try(conv=>whnf)
    refine And.intro (fun h7=>?_) (fun h7=>?_)
    ·rw [if_pos h7] at hsucc
     have hL:(vcols p x (k + 1)).length = (vcols p x k).length + 1:=by rw [hsucc,List.length_append];rfl
     (repeat((conv=>whnf);refine ajg ?_))<;>try(conv=>whnf)
     refine ⟨k + 1,(show k + 1≤p.cols.length by omega),(show p.cols.length - (k + 1) < p.cols.length - k by omega),?_⟩
     conv=>whnf
     all_goals(repeat' first|exact ayg|apply And.intro|exact azg|fail)
     rw [hsucc]
     exact nl_app rfl
    ·rw [if_neg (by rw [h7];decide),List.append_nil] at hsucc
     (repeat((conv=>whnf);refine ajg ?_))<;>try(conv=>whnf)
     refine ⟨k + 1,(show k + 1≤p.cols.length by omega),(show p.cols.length - (k + 1) < p.cols.length - k by omega),?_⟩
     have hL:=congrArg List.length hsucc.symm
     conv=>whnf
     all_goals(repeat' first|exact ayg|apply And.intro|exact azg|fail)
     rw [hsucc]
     exact nl_refl _
   have h6:¬ (k:Int) < p.cols.length:=of_decide_eq_false h5
   obtain rfl:k = p.cols.length:=by omega
   (repeat((conv=>whnf);refine ajg ?_))<;>try(conv=>whnf)
   refine ⟨⟨Nat,fun k=>k≤p.rows.length,fun k=>[.slot 43 (.val (.int .i64 (k:Int))),.own 5 3 1 (vrows p x k).length (nl (vrows p x k)),.slot 5 (.row 5)],fun k=>p.rows.length - k,0⟩,0,Nat.zero_le _,?_⟩
   conv=>whnf
   refine And.intro ?_ ?_
   ·all_goals(repeat' first|exact ayg|apply And.intro|exact azg|fail)
   conv=>whnf
   rintro k h2
   (repeat((conv=>whnf);refine ajg ?_))<;>try(conv=>whnf)
   refine And.intro (fun h5=>?_) (fun h5=>?_)
   ·have h6:(k:Int) < p.rows.length:=of_decide_eq_true h5
    have w1:IntKind.i64.wrap ((k:Int) + 1) = (k:Int) + 1:=w64 (by omega) (by omega)
    have hl:=idxs_len (fun i=>Broken (p.row i) (act (p.row i) x)) k
    change (vrows p x k).length≤k at hl
    have hsucc:vrows p x (k + 1) = vrows p x k ++ (if pb (Broken (p.row k) (act (p.row k) x)) = true then [k] else []):=idxs_succ _ k
    (repeat((conv=>whnf);refine ajg ?_))<;>try(conv=>whnf)
    refine ⟨(((p.row k,x),K),M),⟨hx.ax hv hlen (by omega),And.intro (row_fit (p.row k) (Nat.le_refl K)) (And.intro (rl_fit x (Nat.le_refl K)) True.intro)⟩,?_⟩
    (repeat((conv=>whnf);refine ajg ?_))<;>try(conv=>whnf)
    refine And.intro (fun h7=>?_) (fun h7=>?_)
    ·rw [if_pos h7] at hsucc
     have hL:(vrows p x (k + 1)).length = (vrows p x k).length + 1:=by rw [hsucc,List.length_append];rfl
     (repeat((conv=>whnf);refine ajg ?_))<;>try(conv=>whnf)
     refine ⟨k + 1,(show k + 1≤p.rows.length by omega),(show p.rows.length - (k + 1) < p.rows.length - k by omega),?_⟩
     conv=>whnf
     all_goals(repeat' first|exact ayg|apply And.intro|exact azg|fail)
     rw [hsucc]
     exact nl_app rfl
    ·rw [if_neg (by rw [h7];decide),List.append_nil] at hsucc
     (repeat((conv=>whnf);refine ajg ?_))<;>try(conv=>whnf)
     refine ⟨k + 1,(show k + 1≤p.rows.length by omega),(show p.rows.length - (k + 1) < p.rows.length - k by omega),?_⟩
     have hL:=congrArg List.length hsucc.symm
     conv=>whnf
     all_goals(repeat' first|exact ayg|apply And.intro|exact azg|fail)
     rw [hsucc]
     exact nl_refl _
   ·have h6:¬ (k:Int) < p.rows.length:=of_decide_eq_false h5
    obtain rfl:k = p.rows.length:=by omega
    (repeat((conv=>whnf);refine ajg ?_))<;>try(conv=>whnf)
    all_goals(repeat' first|exact ayg|apply And.intro|exact azg|fail)
    all_goals exact nl_refl _
noncomputable def lvio_s:PSpec Tryz.prog:=⟨84,ghSpec ((((Prg × List Rat) × Nat) × Nat) × Bool) (fun | ((((c0,c1),c2),_),_)=>[prgAv c0 c2,rlAv c1 c2]) (fun | ((((c0,c1),c2),c3),c4)=>PX c0 c1 c2 c3∧(c4 = true↔errC c0 c1.length c0.cols.length = 0)) (fun | ((((c0,c1),_),_),c4)=>vioAv (vcols c0 c1 c0.cols.length) (vrows c0 c1 c0.rows.length) (errC c0 c1.length c0.cols.length) c4),ghSpec_ok (fn:=Tryz.f84) (ctx_ok TT_ok [lchk_s,lout_s,lbrk_s]) mixed_ok (by kernel_rfl) (fun | ((((c0,c1),c2),c3),c4),hp=>lvio_x c0 c1 c2 c3 c4 hp.1 hp.2),by kernel_rfl⟩
set_option smartUnfolding false in
theorem lfea_x (p:Prg) (x:List Rat) (K M:Nat) (hx:PX p x K M):fnOk ⟨TT,specsOf [lvio_s]⟩ Tryz.f30 [prgAv p K,rlAv x K] (.val (.bool (pb (Feas p x)))):=by
 have hf:pb (Feas p x) = pb (errC p x.length p.cols.length = 0∧vcols p x p.cols.length = []∧vrows p x p.rows.length = []):=pb_congr feas_iff
 by_cases he:errC p x.length p.cols.length = 0
 ·(repeat((conv=>whnf);refine ajg ?_))<;>try(conv=>whnf)
  refine ⟨((((p,x),K),M),true),⟨⟨hx,by simpa using he⟩,And.intro (prg_fit p (Nat.le_refl K)) (And.intro (rl_fit x (Nat.le_refl K)) True.intro)⟩,?_⟩
  (repeat((conv=>whnf);refine ajg ?_))<;>try(conv=>whnf)
  refine And.intro (fun _=>?_) (fun h=>absurd h (by decide))
  (repeat((conv=>whnf);refine ajg ?_))<;>try(conv=>whnf)
  refine And.intro (fun h1=>?_) (fun h1=>?_)
  ·have h2:vcols p x p.cols.length = []:=by simpa using h1
   (repeat((conv=>whnf);refine ajg ?_))<;>try(conv=>whnf)
   refine congrArg Value.bool ((pb_of ?_).symm.trans hf.symm)
   simp [he,h2]
  ·have h2:vcols p x p.cols.length≠[]:=by simpa using h1
   (repeat((conv=>whnf);refine ajg ?_))<;>try(conv=>whnf)
   exact congrArg Value.bool ((pb_f.2 fun h=>h2 h.2.1).symm.trans hf.symm)
 ·(repeat((conv=>whnf);refine ajg ?_))<;>try(conv=>whnf)
  refine ⟨((((p,x),K),M),false),⟨⟨hx,by simpa using he⟩,And.intro (prg_fit p (Nat.le_refl K)) (And.intro (rl_fit x (Nat.le_refl K)) True.intro)⟩,?_⟩
  (repeat((conv=>whnf);refine ajg ?_))<;>try(conv=>whnf)
  refine And.intro (fun h1=>absurd (by simpa using h1) he) (fun h1=>?_)
  (repeat((conv=>whnf);refine ajg ?_))<;>try(conv=>whnf)
  exact congrArg Value.bool ((pb_f.2 fun h=>he h.1).symm.trans hf.symm)
noncomputable def lfea_s:PSpec Tryz.prog:=⟨30,ghSpec (((Prg × List Rat) × Nat) × Nat) (fun | (((c0,c1),c2),_)=>[prgAv c0 c2,rlAv c1 c2]) (fun | (((c0,c1),c2),c3)=>PX c0 c1 c2 c3) (fun | (((c0,c1),_),_)=>.val (.bool (pb (Feas c0 c1)))),ghSpec_ok (fn:=Tryz.f30) (ctx_ok TT_ok [lvio_s]) mixed_ok (by kernel_rfl) (fun | (((c0,c1),c2),c3),hp=>lfea_x c0 c1 c2 c3 hp),by kernel_rfl⟩
set_option maxHeartbeats 4000000 in
set_option smartUnfolding false in
theorem lred_x (p:Prg) (y:List Rat) (K M:Nat) (g:Bool) (hy:PY p y K M) (hg:g = true↔errC p y.length p.rows.length = 0):fnOk ⟨TT,specsOf [lchk_s,RNorm_s,RSign_s,RMul_s,RSub_s]⟩ Tryz.f86 [prgAv p K,rlAv y K] (actsAv (red p y) p.cols.length M (errC p y.length p.rows.length) g):=by
 have b0:=hy.b.c
 have b1:=hy.b.r
 have b4:=hy.b.hK
 have b5:=hy.hM
 have b6:=hy.hm
 cases hgb:g with
 | false=>
   have hne:=ec_nz hg hgb
   (repeat((conv=>whnf);refine ajg ?_))<;>try(conv=>whnf)
   refine ⟨(((p,y),K),p.rows.length),⟨hy.b,And.intro (prg_fit p (Nat.le_refl K)) (And.intro (rl_fit y (Nat.le_refl K)) (And.intro rfl True.intro))⟩,?_⟩
   (repeat((conv=>whnf);refine ajg ?_))<;>try(conv=>whnf)
   refine And.intro (fun h1=>?_) (fun h1=>absurd (hne.symm.trans h1) (by decide))
   (repeat((conv=>whnf);refine ajg ?_))<;>try(conv=>whnf)
   all_goals(repeat' first|exact ayg|apply And.intro|exact azg|fail)
 | true=>
   have he:=ec_z hg hgb
   have hlen:y.length = p.rows.length:=(errC_zero.1 he).2
   have hv:=(errC_zero.1 he).1
   (repeat((conv=>whnf);refine ajg ?_))<;>try(conv=>whnf)
   refine ⟨(((p,y),K),p.rows.length),⟨hy.b,And.intro (prg_fit p (Nat.le_refl K)) (And.intro (rl_fit y (Nat.le_refl K)) (And.intro rfl True.intro))⟩,?_⟩
   (repeat((conv=>whnf);refine ajg ?_))<;>try(conv=>whnf)
   refine And.intro (fun h1=>absurd h1 (by rw [show errC p y.length p.rows.length = 0 from he];decide)) (fun h1=>?_)
   (repeat((conv=>whnf);refine ajg ?_))<;>try(conv=>whnf)
   refine ⟨⟨Nat,fun k=>k≤p.cols.length,fun k=>[.slot 30 (.val (.int .i64 (k:Int))),.mod 26 36 3 p.cols.length (partC (redR p y 0) M k)],fun k=>p.cols.length - k,0⟩,0,Nat.zero_le _,?_⟩
   conv=>whnf
   refine And.intro ?_ ?_
   ·all_goals(repeat' first|exact ayg|apply And.intro|exact azg|fail)
    exact part_zero _ _ _
   conv=>whnf
   rintro k h2
   (repeat((conv=>whnf);refine ajg ?_))<;>try(conv=>whnf)
   refine And.intro (fun h5=>?_) (fun h5=>?_)
   ·have h6:(k:Int) < p.cols.length:=of_decide_eq_true h5
    have w1:IntKind.i64.wrap ((k:Int) + 1) = (k:Int) + 1:=w64 (by omega) (by omega)
    (repeat((conv=>whnf);refine ajg ?_))<;>try(conv=>whnf)
    refine ⟨k + 1,(show k + 1≤p.cols.length by omega),(show p.cols.length - (k + 1) < p.cols.length - k by omega),?_⟩
    conv=>whnf
    all_goals(repeat' first|exact ayg|apply And.intro|exact azg|fail)
    exact part_step (j:=k) rfl rfl (.inr (hy.r 0 k (Nat.zero_le _)))
   have h6:¬ (k:Int) < p.cols.length:=of_decide_eq_false h5
   obtain rfl:k = p.cols.length:=by omega
   (repeat((conv=>whnf);refine ajg ?_))<;>try(conv=>whnf)
   refine ⟨⟨Nat,fun i=>i≤p.rows.length,fun i=>[.slot 45 (.val (.int .i64 (i:Int))),.mod 26 36 3 p.cols.length (madeC (redR p y i) M)],fun i=>p.rows.length - i,0⟩,0,Nat.zero_le _,?_⟩
   conv=>whnf
   refine And.intro ?_ ?_
   ·all_goals(repeat' first|exact ayg|apply And.intro|exact azg|fail)
    exact part_done
   conv=>whnf
   rintro i h7
   (repeat((conv=>whnf);refine ajg ?_))<;>try(conv=>whnf)
   refine And.intro (fun h8=>?_) (fun h8=>?_)
   ·have h9:(i:Int) < p.rows.length:=of_decide_eq_true h8
    have w1:IntKind.i64.wrap ((i:Int) + 1) = (i:Int) + 1:=w64 (by omega) (by omega)
    have b3:=hy.b.e i
    (repeat((conv=>whnf);refine ajg ?_))<;>try(conv=>whnf)
    refine And.intro (fun h10=>?_) (fun h10=>?_)
    ·have e:redR p y i = redR p y (i + 1):=redR_skip h10
     (repeat((conv=>whnf);refine ajg ?_))<;>try(conv=>whnf)
     refine ⟨i + 1,(show i + 1≤p.rows.length by omega),(show p.rows.length - (i + 1) < p.rows.length - i by omega),?_⟩
     conv=>whnf
     all_goals(repeat' first|exact ayg|apply And.intro|exact azg|fail)
     exact made_eq e.symm _ _
    have e:redE (p.row i) (rg y i) (redR p y i) (p.row i).es.length = redR p y (i + 1):=redR_do h10
    (repeat((conv=>whnf);refine ajg ?_))<;>try(conv=>whnf)
    refine ⟨⟨Nat,fun k=>k≤(p.row i).es.length,fun k=>[.slot 59 (.val (.int .i64 (k:Int))),.mod 26 36 3 p.cols.length (madeC (redE (p.row i) (rg y i) (redR p y i) k) M)],fun k=>(p.row i).es.length - k,0⟩,0,Nat.zero_le _,?_⟩
    conv=>whnf
    refine And.intro ?_ ?_
    ·all_goals(repeat' first|exact ayg|apply And.intro|exact azg|fail)
     exact made_refl _ _ _
    conv=>whnf
    rintro k h11
    (repeat((conv=>whnf);refine ajg ?_))<;>try(conv=>whnf)
    refine And.intro (fun h12=>?_) (fun h12=>?_)
    ·have h13r:=of_decide_eq_true h12
     have h13:(k:Int) < (p.row i).es.length:=h13r
     have w2:IntKind.i64.wrap ((k:Int) + 1) = (k:Int) + 1:=w64 (by omega) (by omega)
     have hix:=(hv.ro i (by omega)).2.2 k (by omega)
     have hix2:0≤((p.row i).es.getD k (0,0)).1∧((p.row i).es.getD k (0,0)).1 < (p.cols.length:Int):=⟨hix.1,hix.2.1⟩
     have hr:0≤((p.rows.getD (i:Int).toNat rowZ).es.getD (k:Int).toNat (0,0)).1∧((p.rows.getD (i:Int).toNat rowZ).es.getD (k:Int).toNat (0,0)).1 < (p.cols.length:Int):=hix2
     (repeat((conv=>whnf);refine ajg ?_))<;>try(conv=>whnf)
     refine ⟨k + 1,(show k + 1≤(p.row i).es.length by omega),(show (p.row i).es.length - (k + 1) < (p.row i).es.length - k by omega),?_⟩
     conv=>whnf
     all_goals(repeat' first|exact ayg|apply And.intro|exact azg|fail)
     exact made_upd (r:=p.row i) (y:=rg y i) (d:=redR p y i) (k:=k) rfl rfl (hy.e i (k + 1) _ (by omega) (by omega))
    ·have h13:¬ (k:Int) < (p.row i).es.length:=of_decide_eq_false h12
     obtain rfl:k = (p.row i).es.length:=by omega
     (repeat((conv=>whnf);refine ajg ?_))<;>try(conv=>whnf)
     refine ⟨i + 1,(show i + 1≤p.rows.length by omega),(show p.rows.length - (i + 1) < p.rows.length - i by omega),?_⟩
     conv=>whnf
     all_goals(repeat' first|exact ayg|apply And.intro|exact azg|fail)
     exact made_eq e.symm _ _
   ·have h9:¬ (i:Int) < p.rows.length:=of_decide_eq_false h8
    obtain rfl:i = p.rows.length:=by omega
    (repeat((conv=>whnf);refine ajg ?_))<;>try(conv=>whnf)
    all_goals(repeat' first|exact ayg|apply And.intro|exact azg|fail)
    exact made_refl _ _ _
noncomputable def lred_s:PSpec Tryz.prog:=⟨86,ghSpec ((((Prg × List Rat) × Nat) × Nat) × Bool) (fun | ((((c0,c1),c2),_),_)=>[prgAv c0 c2,rlAv c1 c2]) (fun | ((((c0,c1),c2),c3),c4)=>PY c0 c1 c2 c3∧(c4 = true↔errC c0 c1.length c0.rows.length = 0)) (fun | ((((c0,c1),_),c3),c4)=>actsAv (red c0 c1) c0.cols.length c3 (errC c0 c1.length c0.rows.length) c4),ghSpec_ok (fn:=Tryz.f86) (ctx_ok TT_ok [lchk_s,RNorm_s,RSign_s,RMul_s,RSub_s]) mixed_ok (by kernel_rfl) (fun | ((((c0,c1),c2),c3),c4),hp=>lred_x c0 c1 c2 c3 c4 hp.1 hp.2),by kernel_rfl⟩
set_option smartUnfolding false in
theorem lsgd_x (p:Prg) (y:List Rat) (K:Nat) (hb:PB p K):fnOk ⟨TT,specsOf [lchk_s,RSign_s]⟩ Tryz.f83 [prgAv p K,rlAv y K] (.val (.bool (pb (Sgd p y)))):=by
 have b1:=hb.r
 have b4:=hb.hK
 (repeat((conv=>whnf);refine ajg ?_))<;>try(conv=>whnf)
 refine ⟨(((p,y),K),p.rows.length),⟨hb,And.intro (prg_fit p (Nat.le_refl K)) (And.intro (rl_fit y (Nat.le_refl K)) (And.intro rfl True.intro))⟩,?_⟩
 (repeat((conv=>whnf);refine ajg ?_))<;>try(conv=>whnf)
 refine And.intro (fun h1=>?_) (fun h1=>?_)
 ·have he:errC p y.length p.rows.length≠0:=by simpa using h1
  (repeat((conv=>whnf);refine ajg ?_))<;>try(conv=>whnf)
  exact congrArg Value.bool (pb_f.2 fun h=>he (errC_zero.2 ⟨h.v,h.n⟩)).symm
 have he:errC p y.length p.rows.length = 0:=by simpa using h1
 have hlen:y.length = p.rows.length:=(errC_zero.1 he).2
 have hv:=(errC_zero.1 he).1
 (repeat((conv=>whnf);refine ajg ?_))<;>try(conv=>whnf)
 refine ⟨⟨Nat,fun k=>k≤p.rows.length∧∀ i,i < k→((p.row i).sense = -1→rg y i≤0)∧((p.row i).sense = 1→0≤rg y i),fun k=>[.slot 18 (.val (.int .i64 (k:Int)))],fun k=>p.rows.length - k,0⟩,0,⟨Nat.zero_le _,fun i hi=>by omega⟩,?_⟩
 conv=>whnf
 refine And.intro ?_ ?_
 ·all_goals(repeat' first|exact ayg|apply And.intro|exact azg|fail)
 conv=>whnf
 rintro k ⟨h2,h3⟩
 (repeat((conv=>whnf);refine ajg ?_))<;>try(conv=>whnf)
 refine And.intro (fun h5=>?_) (fun h5=>?_)
 ·have h6r:=of_decide_eq_true h5
  have h6:(k:Int) < p.rows.length:=h6r
  have w1:IntKind.i64.wrap ((k:Int) + 1) = (k:Int) + 1:=w64 (by omega) (by omega)
  have no:¬ (((p.row k).sense = -1→rg y k≤0)∧((p.row k).sense = 1→0≤rg y k))→pb (Sgd p y) = false:=fun hn=>pb_f.2 fun h=>hn (h.s k (by omega))
  have yes:(((p.row k).sense = -1→rg y k≤0)∧((p.row k).sense = 1→0≤rg y k))→∀ i,i < k + 1→((p.row i).sense = -1→rg y i≤0)∧((p.row i).sense = 1→0≤rg y i):=fun hy i hi=>by
   rcases Nat.lt_or_ge i k with hik | hik
   ·exact h3 i hik
   ·rw [show i = k by omega];exact hy
  have f0:(p.rows.getD (k:Int).toNat rowZ).sense = (p.row k).sense:=rfl
  have f1:decide (sgn (rg y (k:Int).toNat).num > 0) = pb (0 < rg y k):=sgt _
  have f2:decide (sgn (rg y (k:Int).toNat).num < 0) = pb (rg y k < 0):=slt _
  have f3:=@pb_t (0 < rg y k)
  have f4:=@pb_t (rg y k < 0)
  repeat' (first|(refine And.intro (fun _=>?_) (fun _=>?_))|((conv=>whnf);refine akg ?_))
  all_goals (try(conv=>whnf))
  all_goals first
   | exact congrArg Value.bool (no (by grind)).symm
   | (refine ⟨k + 1,⟨by omega,yes (by grind)⟩,(show p.rows.length - (k + 1) < p.rows.length - k by omega),?_⟩
      conv=>whnf
      all_goals(repeat' first|exact ayg|apply And.intro|exact azg|fail))
 ·have h6:¬ (k:Int) < p.rows.length:=of_decide_eq_false h5
  obtain rfl:k = p.rows.length:=by omega
  (repeat((conv=>whnf);refine ajg ?_))<;>try(conv=>whnf)
  exact congrArg Value.bool (pb_t.2 ⟨hv,hlen,h3⟩).symm
noncomputable def lsgd_s:PSpec Tryz.prog:=⟨83,ghSpec ((Prg × List Rat) × Nat) (fun | ((c0,c1),c2)=>[prgAv c0 c2,rlAv c1 c2]) (fun | ((c0,_),c2)=>PB c0 c2) (fun | ((c0,c1),_)=>.val (.bool (pb (Sgd c0 c1)))),ghSpec_ok (fn:=Tryz.f83) (ctx_ok TT_ok [lchk_s,RSign_s]) mixed_ok (by kernel_rfl) (fun | ((c0,c1),c2),hp=>lsgd_x c0 c1 c2 hp),by kernel_rfl⟩
set_option maxHeartbeats 4000000 in
set_option smartUnfolding false in
theorem lbnd_x (p:Prg) (y:List Rat) (K M:Nat) (g:Bool) (hy:PY p y K M) (hg:g = true↔BndOk p y):fnOk ⟨TT,specsOf [lsgd_s,lred_s,RFI_s,RMul_s,RAdd_s,RSign_s]⟩ Tryz.f81 [prgAv p K,rlAv y K] (optAv (bnd p y) M g):=by
 have b0:=hy.b.c
 have b1:=hy.b.r
 have b4:=hy.b.hK
 have b5:=hy.hM
 have b6:=hy.hm
 have hgf:¬ BndOk p y→g = false:=fun h=>by cases g with
  | false=>rfl
  | true=>exact absurd (hg.1 rfl) h
 (repeat((conv=>whnf);refine ajg ?_))<;>try(conv=>whnf)
 refine ⟨((p,y),K),⟨hy.b,And.intro (prg_fit p (Nat.le_refl K)) (And.intro (rl_fit y (Nat.le_refl K)) True.intro)⟩,?_⟩
 (repeat((conv=>whnf);refine ajg ?_))<;>try(conv=>whnf)
 refine And.intro (fun h1=>?_) (fun h1=>?_)
 ·obtain rfl:=hgf fun h=>pbn h1 h.s
  (repeat((conv=>whnf);refine ajg ?_))<;>try(conv=>whnf)
  all_goals(repeat' first|exact ayg|apply And.intro|exact azg|fail)
 have hs:Sgd p y:=pbnf h1
 have he:errC p y.length p.rows.length = 0:=errC_zero.2 ⟨hs.v,hs.n⟩
 have hlen:=hs.n
 (repeat((conv=>whnf);refine ajg ?_))<;>try(conv=>whnf)
 refine ⟨((((p,y),K),M),true),⟨⟨hy,by simpa using he⟩,And.intro (prg_fit p (Nat.le_refl K)) (And.intro (rl_fit y (Nat.le_refl K)) True.intro)⟩,?_⟩
 (repeat((conv=>whnf);refine ajg ?_))<;>try(conv=>whnf)
 refine ⟨⟨Nat,fun k=>k≤p.rows.length,fun k=>[.slot 29 (.val (.int .i64 (k:Int))),.obj 8 (.cons (.ratC (yrhs p y k) M) .nil)],fun k=>p.rows.length - k,0⟩,0,Nat.zero_le _,?_⟩
 conv=>whnf
 refine And.intro ?_ ?_
 ·all_goals(repeat' first|exact ayg|apply And.intro|exact azg|fail)
 conv=>whnf
 rintro k h2
 (repeat((conv=>whnf);refine ajg ?_))<;>try(conv=>whnf)
 refine And.intro (fun h5=>?_) (fun h5=>?_)
 ·have h6r:=of_decide_eq_true h5
  have h6:(k:Int) < p.rows.length:=h6r
  have w1:IntKind.i64.wrap ((k:Int) + 1) = (k:Int) + 1:=w64 (by omega) (by omega)
  have hsz:=hy.h (k + 1) (by omega)
  (repeat((conv=>whnf);refine ajg ?_))<;>try(conv=>whnf)
  refine ⟨k + 1,(show k + 1≤p.rows.length by omega),(show p.rows.length - (k + 1) < p.rows.length - k by omega),?_⟩
  conv=>whnf
  all_goals(repeat' first|exact ayg|apply And.intro|exact azg|fail)
 have h6:¬ (k:Int) < p.rows.length:=of_decide_eq_false h5
 obtain rfl:k = p.rows.length:=by omega
 (repeat((conv=>whnf);refine ajg ?_))<;>try(conv=>whnf)
 refine ⟨⟨Nat,fun j=>j≤p.cols.length∧∀ i,i < j→bOk p y i,fun j=>[.slot 47 (.val (.int .i64 (j:Int))),.obj 8 (.cons (.ratC (bsum p y j) M) .nil)],fun j=>p.cols.length - j,0⟩,0,⟨Nat.zero_le _,fun i hi=>by omega⟩,?_⟩
 have ez:yrhs p y p.rows.length = bsum p y 0:=(Rat.add_zero _).symm
 conv=>whnf
 refine And.intro ?_ ?_
 ·all_goals(repeat' first|exact ayg|apply And.intro|exact azg|fail)
 conv=>whnf
 rintro j ⟨h7,h8⟩
 (repeat((conv=>whnf);refine ajg ?_))<;>try(conv=>whnf)
 refine And.intro (fun h9=>?_) (fun h9=>?_)
 ·have h10r:=of_decide_eq_true h9
  have h10:(j:Int) < p.cols.length:=h10r
  have w1:IntKind.i64.wrap ((j:Int) + 1) = (j:Int) + 1:=w64 (by omega) (by omega)
  have hsz:=hy.s (j + 1) (by omega)
  have no:¬ bOk p y j→g = false:=fun hn=>hgf fun h=>hn (h.b j (by omega))
  have yes:bOk p y j→∀ i,i < j + 1→bOk p y i:=fun hy i hi=>by
   rcases Nat.lt_or_ge i j with hik | hik
   ·exact h8 i hik
   ·rw [show i = j by omega];exact hy
  have f0:(p.cols.getD (j:Int).toNat colZ).hl = (p.col j).hl:=rfl
  have f00:(p.cols.getD (j:Int).toNat colZ).hu = (p.col j).hu:=rfl
  have f1:decide (sgn (red p y (j:Int).toNat).num > 0) = pb (0 < red p y j):=sgt _
  have f2:decide (sgn (red p y (j:Int).toNat).num < 0) = pb (red p y j < 0):=slt _
  have f5:(sgn (red p y (j:Int).toNat).num != 0) = pb (red p y j≠0):=sne _
  have f3:=@pb_t (0 < red p y j)
  have f4:=@pb_t (red p y j < 0)
  have f6:=@pb_t (red p y j≠0)
  have z1:0 < red p y j→Sz (bsum p y j + red p y j * (p.col j).lo) M:=fun h=>(bs_pos h).symm ▸ hsz
  have z2:red p y j < 0→Sz (bsum p y j + red p y j * (p.col j).up) M:=fun h=>(bs_neg h).symm ▸ hsz
  repeat' (first|(refine And.intro (fun _=>?_) (fun _=>?_))|((conv=>whnf);refine akg ?_))
  all_goals (try(conv=>whnf))
  all_goals first
   | (obtain rfl:=no (by unfold bOk;grind)
      all_goals(repeat' first|exact ayg|apply And.intro|exact azg|fail)
      done)
   | (refine ⟨j + 1,⟨by omega,yes (by unfold bOk;grind)⟩,(show p.cols.length - (j + 1) < p.cols.length - j by omega),?_⟩
      conv=>whnf
      all_goals(repeat' first|exact ayg|apply And.intro|exact azg|fail)
      all_goals first | exact bs_pos (by grind) | exact bs_neg (by grind) | exact bs_nil (by grind) | exact .inr (z1 (by grind)) | exact .inr (z2 (by grind)))
 ·have h10:¬ (j:Int) < p.cols.length:=of_decide_eq_false h9
  obtain rfl:j = p.cols.length:=by omega
  obtain rfl:g = true:=hg.2 ⟨hs,h8⟩
  (repeat((conv=>whnf);refine ajg ?_))<;>try(conv=>whnf)
  all_goals(repeat' first|exact ayg|apply And.intro|exact azg|fail)
noncomputable def lbnd_s:PSpec Tryz.prog:=⟨81,ghSpec ((((Prg × List Rat) × Nat) × Nat) × Bool) (fun | ((((c0,c1),c2),_),_)=>[prgAv c0 c2,rlAv c1 c2]) (fun | ((((c0,c1),c2),c3),c4)=>PY c0 c1 c2 c3∧(c4 = true↔BndOk c0 c1)) (fun | ((((c0,c1),_),c3),c4)=>optAv (bnd c0 c1) c3 c4),ghSpec_ok (fn:=Tryz.f81) (ctx_ok TT_ok [lsgd_s,lred_s,RFI_s,RMul_s,RAdd_s,RSign_s]) mixed_ok (by kernel_rfl) (fun | ((((c0,c1),c2),c3),c4),hp=>lbnd_x c0 c1 c2 c3 c4 hp.1 hp.2),by kernel_rfl⟩
end Go.Proofs.YtfgkecffpkdjcaaGreat
