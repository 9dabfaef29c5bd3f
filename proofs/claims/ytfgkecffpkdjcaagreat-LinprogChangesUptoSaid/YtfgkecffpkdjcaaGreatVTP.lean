/- The tape of choices by the executor. -/
import Derived.Test.YtfgkecffpkdjcaaGreatVL
import Derived.Test.YtfgkecffpkdjcaaGreatGP
namespace Go.Proofs.YtfgkecffpkdjcaaGreat
open Go.RowKit Gm Go.Vx
set_option maxRecDepth 100000
theorem md_run {v n:Int} (h:1≤n) (h2:n≤4611686018427387904):IntKind.i64.wrap (IntKind.u64.wrap v |>.tmod (IntKind.u64.wrap n)) = md v n:=by
 have e:∀ x:Int,IntKind.u64.wrap x = x % 18446744073709551616:=fun x=>IntKind.wrap_u64 x
 have hb:=md_bd v h
 rw [e,e,Int.emod_eq_of_lt (a:=n) (by omega) (by omega),Int.tmod_eq_emod_of_nonneg (Int.emod_nonneg _ (by omega))]
 show IntKind.i64.wrap (md v n) = _
 exact w64 (by omega) (by omega)
def zf (f:Nat→Av) (k:Nat):Int:=match f k with
 | .cons (.val (.int .i64 z)) .nil=>z
 | _=>0
def tpC (F:Nat→Int) (n i:Nat):Av:=.cons (.list 1 n (fun k=>.cons (.val (.int .i64 (F k))) .nil)) (.cons (.val (.int .i64 (i:Int))) .nil)
def spT (p:(Nat→Int)→Nat→Nat→List Av→Prop) (r:(Nat→Int)→Nat→Nat→List Av→Av) (j:(Nat→Int)→Nat→Nat→List Av→Nat):Go.Vx.Spec
 | .tup (.cons (.list sz n f) (.cons (.val (.int .i64 i)) .nil)) :: rest=>.chg (some (sz = 1∧0≤i∧i.toNat≤n∧n≤1048576∧(∀ k,k < n→f k = .cons (.val (.int .i64 (zf f k))) .nil)∧p (zf f) n i.toNat rest)) (r (zf f) n i.toNat rest) (tpC (zf f) n (j (zf f) n i.toNat rest))
 | _=>.no
theorem spT_ok {P:Program} {C:Ctx} {f:FuncId} {fn:Func} (hC:CtxOk P C) (hm:P.follows .mixedOrders = true) (hf:P.funcs[f]? = some fn) {p:(Nat→Int)→Nat→Nat→List Av→Prop} {r:(Nat→Int)→Nat→Nat→List Av→Av} {j:(Nat→Int)→Nat→Nat→List Av→Nat}
  (h:∀ F n i rest,i≤n→n≤1048576→p F n i rest→fnOkM C fn (tpC F n i) rest (r F n i rest) (tpC F n (j F n i rest))):SpecOk P f (spT p r j):=by
 intro own w vs xs hown ha
 generalize e:spT p r j vs = z
 unfold spT at e
 split at e
 ·subst e
  rename_i sz n g i rest
  rintro ⟨rfl,h0,hi,hn,hg,hp⟩ b T us ys rfl hb hh
  cases ha with
  | @cons v x _ _ hx ht=>
  have hu:Rob own w (.cons (.list 1 n g) (.cons (.val (.int .i64 i)) .nil)) us:=fun w' hg=>by
   obtain ⟨us',e1,hh⟩:=hx w' hg
   simp at e1
   subst e1
   exact hh
  have hfit:fitC (tpC (zf g) n i.toNat) (.cons (.list 1 n g) (.cons (.val (.int .i64 i)) .nil)):=And.intro (And.intro rfl (And.intro rfl fun k hk=>by rw [hg k hk];exact And.intro rfl True.intro)) (And.intro (congrArg (Value.int .i64) (Int.toNat_of_nonneg h0).symm) True.intro)
  exact fn_okM hC hm hf (h (zf g) n i.toNat rest hi hn hp) hown hb hh (fitC_rob hfit hu) ht
 ·subst e;trivial
def a1:List Av→Int
 | [.val (.int .i64 m)]=>m
 | _=>0
def one1 (lo hi:Int) (rest:List Av):Prop:=rest = [.val (.int .i64 (a1 rest))]∧lo≤a1 rest∧a1 rest≤hi
def spN:Go.Vx.Spec
 | [.list sz n f]=>.new (some (sz = 1∧n≤1048576∧∀ k,k < n→f k = .cons (.val (.int .i64 (zf f k))) .nil)) (tpC (zf f) n 0)
 | _=>.no
theorem spN_ok {P:Program} {C:Ctx} {f:FuncId} {fn:Func} (hC:CtxOk P C) (hm:P.follows .mixedOrders = true) (hf:P.funcs[f]? = some fn)
  (h:∀ F n,n≤1048576→fnOkN C fn [.list 1 n (fun k=>.cons (.val (.int .i64 (F k))) .nil)] (tpC F n 0)):SpecOk P f spN:=by
 intro own w vs xs hown ha
 generalize e:spN vs = z
 unfold spN at e
 split at e
 ·subst e
  rename_i sz n g
  rintro ⟨rfl,hn,hg⟩
  cases ha with
  | @cons v x _ _ hx ht=>
  cases ht
  have hfit:fitC (.list 1 n (fun k=>.cons (.val (.int .i64 (zf g k))) .nil)) (.cons (.list 1 n g) .nil):=And.intro rfl (And.intro rfl fun k hk=>by rw [hg k hk];exact And.intro rfl True.intro)
  exact fn_okN hC hm hf (h (zf g) n hn) hown (.cons (fitC_rob hfit (Rob.one hx)) .nil)
 ·subst e;trivial
def entN (e:Int × Rat) (K:Nat):Av:=.cons (.val (.int .i64 e.1)) (.cons (.ratC e.2 K) .nil)
theorem gEn_t {F:Nat→Int} {n i j:Nat} (h:0 < tNv F n (gEn F n i j).2 3):gEn F n i (j + 1) = ((gEn F n i j).1 ++ [((j:Int),tNzV F n (tNi n (gEn F n i j).2))],tRatI n (tNi n (gEn F n i j).2)):=by rw [gEn,if_pos h]
theorem gEn_f {F:Nat→Int} {n i j:Nat} (h:¬ 0 < tNv F n (gEn F n i j).2 3):gEn F n i (j + 1) = ((gEn F n i j).1,tNi n (gEn F n i j).2):=by rw [gEn,if_neg h]
theorem en_push {l l':List (Int × Rat)} {a:Int} {q:Rat} (h:l' = l ++ [(a,q)]):∀ i,i < l'.length→fitC (entN (l'.getD i (0,0)) 5) (if i < l.length then entN (l.getD i (0,0)) 5 else nthp .nil [.cons (.val (.int .i64 a)) (.cons (.ratC q 5) .nil)] (i - l.length)):=by
 subst h
 intro i hi
 by_cases h:i < l.length
 ·have e:(l ++ [(a,q)]).getD i (0,0) = l.getD i (0,0):=by simp only [List.getD_eq_getElem?_getD];rw [List.getElem?_append_left h]
  rw [if_pos h,e]
  exact And.intro rfl (And.intro ⟨rfl,.inl (Nat.le_refl 5)⟩ True.intro)
 ·simp at hi
  obtain rfl:i = l.length:=by omega
  have e:(l ++ [(a,q)]).getD l.length (0,0) = (a,q):=by simp [List.getD_eq_getElem?_getD]
  rw [if_neg h,Nat.sub_self,e]
  exact And.intro rfl (And.intro ⟨rfl,.inl (Nat.le_refl 5)⟩ True.intro)
theorem en_same {l l':List (Int × Rat)} (h:l' = l):∀ i,i < l'.length→fitC (entN (l'.getD i (0,0)) 5) (entN (l.getD i (0,0)) 5):=fun i _=>by
 subst h;exact And.intro rfl (And.intro ⟨rfl,.inl (Nat.le_refl 5)⟩ True.intro)
theorem en_done {l:List (Int × Rat)}:∀ i,i < l.length→fitC (entC (l.getD i (0,0)) 5) (entN (l.getD i (0,0)) 5):=fun _ _=>And.intro rfl (And.intro ⟨rfl,.inl (Nat.le_refl 5)⟩ True.intro)
def nilA:Av:=.val (.slice none 0 0)
theorem col_push {F:Nat→Int} {n i k:Nat}:∀ j,j < k + 1→fitC (colC (gCs F n i j) 5) (if j < k then colC (gCs F n i j) 5 else nthp .nil [colC (gCol F n (gCsI F n i k)) 5] (j - k)):=fun j hj=>by
 by_cases h:j < k
 ·rw [if_pos h];exact col_fit _ (Nat.le_refl 5)
 ·obtain rfl:j = k:=by omega
  rw [if_neg h,Nat.sub_self];exact col_fit _ (Nat.le_refl 5)
theorem row_push {F:Nat→Int} {n i k m:Nat}:∀ j,j < k + 1→fitC (rowC (gRs F n i m j) 5) (if j < k then rowC (gRs F n i m j) 5 else nthp .nil [rowC (gRow F n (gRsI F n i m k) m) 5] (j - k)):=fun j hj=>by
 by_cases h:j < k
 ·rw [if_pos h];exact row_fit _ (Nat.le_refl 5)
 ·obtain rfl:j = k:=by omega
  rw [if_neg h,Nat.sub_self];exact row_fit _ (Nat.le_refl 5)
theorem cols_done {F:Nat→Int} {n i:Nat} {c r:Int}:∀ j,j < (gPrg F n i c r).cols.length→fitC (colC ((gPrg F n i c r).cols.getD j colZ) 5) (colC (gCs F n (tNi n i) j) 5):=fun j hj=>by
 rw [show (gPrg F n i c r).cols.getD j colZ = _ from gPrg_col (by rwa [gPrg_cols] at hj)];exact col_fit _ (Nat.le_refl 5)
theorem rows_done {F:Nat→Int} {n i:Nat} {c r:Int}:∀ j,j < (gPrg F n i c r).rows.length→fitC (rowC ((gPrg F n i c r).rows.getD j rowZ) 5) (rowC (gRs F n (tNi n (gP1 F n i c)) (gNc F n i c) j) 5):=fun j hj=>by
 rw [show (gPrg F n i c r).rows.getD j rowZ = _ from gPrg_row (by rwa [gPrg_rows] at hj)];exact row_fit _ (Nat.le_refl 5)
def tA (F:Nat→Int) (n:Nat):Av:=.list 1 n (fun k=>.cons (.val (.int .i64 (F k))) .nil)
theorem tA_fit (F:Nat→Int) (n:Nat):fitC (tA F n) (.cons (tA F n) .nil):=And.intro rfl (And.intro rfl fun _ _=>And.intro rfl True.intro)
set_option smartUnfolding false in
theorem mod_x (v n:Int) (h:1≤n) (h2:n≤4611686018427387904):fnOk ⟨TT,specsOf ([]:List (PSpec Tryz.prog))⟩ Tryz.f41 [.val (.int .i64 v),.val (.int .i64 n)] (.val (.int .i64 (md v n))):=by
 have e:=md_run (v:=v) h h2
 have e0:IntKind.u64.wrap n≠0:=by rw [IntKind.wrap_u64,Int.emod_eq_of_lt (by omega) (by omega)];omega
 (repeat((conv=>whnf);refine aig ?_))<;>try(conv=>whnf)
 exact congrArg (Value.int IntKind.i64) e
noncomputable def mod_s:PSpec Tryz.prog:=⟨41,spII (fun v n=>.val (.int .i64 (md v n))) (fun _ n=>1≤n∧n≤4611686018427387904),spII_ok fun _ _ v n ho h=>fn_ok (ctx_ok TT_ok ([]:List (PSpec Tryz.prog))) mixed_ok (fn:=Tryz.f41) (by kernel_rfl) (mod_x v n h.1 h.2) ho (.cons (fun _ _=>rfl) (.cons (fun _ _=>rfl) .nil)),by kernel_rfl⟩
set_option smartUnfolding false in
theorem next_x (F:Nat→Int) (n i:Nat) (m:Int) (hi:i≤n) (hn:n≤1048576) (h:1≤m) (h2:m≤4611686018427387904):fnOkM ⟨TT,specsOf [mod_s]⟩ Tryz.f36 (tpC F n i) [.val (.int .i64 m)] (.val (.int .i64 (tNv F n i m))) (tpC F n (tNi n i)):=by
 refine And.intro rfl ?_
 (repeat((conv=>whnf);refine aig ?_))<;>try(conv=>whnf)
 refine And.intro (fun h5=>?_) (fun h5=>?_)
 ·have h6:(n:Int)≤(i:Int):=of_decide_eq_true h5
  have e1:tNv F n i m = 0:=if_neg (by omega)
  have e2:tNi n i = i:=if_neg (by omega)
  rw [e1,e2]
  (repeat((conv=>whnf);refine aig ?_))<;>try(conv=>whnf)
  all_goals(repeat' first|exact ayg|apply And.intro|exact azg|fail)
  all_goals exact fun _ _=>And.intro rfl True.intro
 ·have h6:¬ (n:Int)≤(i:Int):=of_decide_eq_false h5
  have e1:tNv F n i m = md (F i) m:=if_pos (by omega)
  have e2:tNi n i = i + 1:=if_pos (by omega)
  have w1:IntKind.i64.wrap ((i:Int) + 1) = (i:Int) + 1:=w64 (by omega) (by omega)
  have w3:IntKind.i64.wrap (IntKind.i64.wrap ((i:Int) + 1) - 1) = (i:Int):=by rw [w1];exact (w64 (by omega) (by omega)).trans (by omega)
  rw [e1,e2]
  (repeat((conv=>whnf);refine aig ?_))<;>try(conv=>whnf)
  have c1:Value.int IntKind.i64 (md (F (IntKind.i64.wrap (IntKind.i64.wrap ((i:Int) + 1) - 1)).toNat) m) = Value.int IntKind.i64 (md (F i) m):=by rw [w3];rfl
  conv=>whnf
  all_goals(repeat' first|exact ayg|apply And.intro|exact azg|fail)
  all_goals first | exact fun _ _=>And.intro rfl True.intro | exact c1 | exact congrArg (Value.int IntKind.i64) w1
noncomputable def next_s:PSpec Tryz.prog:=⟨36,spT (fun _ _ _ rest=>one1 1 4611686018427387904 rest) (fun F n i rest=>.val (.int .i64 (tNv F n i (a1 rest)))) (fun _ n i _=>tNi n i),spT_ok (ctx_ok TT_ok [mod_s]) mixed_ok (fn:=Tryz.f36) (by kernel_rfl) (fun F n i rest hi hn hp=>by rw [hp.1];exact next_x F n i (a1 rest) hi hn hp.2.1 hp.2.2),by kernel_rfl⟩
set_option smartUnfolding false in
theorem trat_x (F:Nat→Int) (n i:Nat) (hi:i≤n) (hn:n≤1048576):fnOkM ⟨TT,specsOf [next_s,rROf_s]⟩ Tryz.f63 (tpC F n i) [] (qAv (tRatV F n i) 5) (tpC F n (tRatI n i)):=by
 refine And.intro rfl ?_
 have b1:=tNv_bd F n i (m:=13) (by decide)
 have b2:=tNv_bd F n (tNi n i) (m:=4) (by decide)
 have b3:=tNi_le hi
 have b4:=tNi_le b3
 have w1:IntKind.i64.wrap (tNv F n i 13 - 6) = tNv F n i 13 - 6:=w64 (by omega) (by omega)
 have w2:IntKind.i64.wrap (1 + tNv F n (tNi n i) 4) = 1 + tNv F n (tNi n i) 4:=w64 (by omega) (by omega)
 have c1:-9223372036854775808≤IntKind.i64.wrap (tNv F n i 13 - 6):=by rw [w1];omega
 have c2:IntKind.i64.wrap (tNv F n i 13 - 6)≤9223372036854775807:=by rw [w1];omega
 have c3:1≤IntKind.i64.wrap (1 + tNv F n (tNi n i) 4):=by rw [w2];omega
 have c4:IntKind.i64.wrap (1 + tNv F n (tNi n i) 4)≤9223372036854775807:=by rw [w2];omega
 have c5:mkRat (IntKind.i64.wrap (tNv F n i 13 - 6)) (IntKind.i64.wrap (1 + tNv F n (tNi n i) 4)).toNat = tRatV F n i:=by rw [w1,w2];rfl
 (repeat((conv=>whnf);refine aig ?_))<;>try(conv=>whnf)
 refine And.intro ⟨rfl,by omega,by omega,by omega,fun _ _=>rfl,rfl,by decide,by decide⟩ ?_
 (repeat((conv=>whnf);refine aig ?_))<;>try(conv=>whnf)
 all_goals(repeat' first|exact ayg|apply And.intro|exact azg|fail)
 all_goals first | exact fun _ _=>And.intro rfl True.intro | exact fun _ _=>rfl | exact c1 | exact c2 | exact c3 | exact c4 | exact c5 | (show (1:Int)≤4;decide) | (show (4:Int)≤_;decide)
noncomputable def trat_s:PSpec Tryz.prog:=⟨63,spT (fun _ _ _ rest=>rest = []) (fun F n i _=>qAv (tRatV F n i) 5) (fun _ n i _=>tRatI n i),spT_ok (ctx_ok TT_ok [next_s,rROf_s]) mixed_ok (fn:=Tryz.f63) (by kernel_rfl) (fun F n i rest hi hn hp=>by subst hp;exact trat_x F n i hi hn),by kernel_rfl⟩
set_option smartUnfolding false in
theorem tnew_x (F:Nat→Int) (n:Nat):fnOkN ⟨TT,specsOf ([]:List (PSpec Tryz.prog))⟩ Tryz.f18 [.list 1 n (fun k=>.cons (.val (.int .i64 (F k))) .nil)] (tpC F n 0):=by
 (repeat((conv=>whnf);refine aig ?_))<;>try(conv=>whnf)
 all_goals(repeat' first|exact ayg|apply And.intro|exact azg|fail)
 all_goals exact fun _ _=>And.intro rfl True.intro
noncomputable def tnew_s:PSpec Tryz.prog:=⟨18,spN,spN_ok (ctx_ok TT_ok ([]:List (PSpec Tryz.prog))) mixed_ok (fn:=Tryz.f18) (by kernel_rfl) (fun F n _=>tnew_x F n),by kernel_rfl⟩
set_option maxHeartbeats 2000000 in
set_option smartUnfolding false in
theorem tnz_x (F:Nat→Int) (n i:Nat) (hi:i≤n) (hn:n≤1048576):fnOkM ⟨TT,specsOf [next_s,rROf_s]⟩ Tryz.f93 (tpC F n i) [] (qAv (tNzV F n i) 5) (tpC F n (tRatI n i)):=by
 refine And.intro rfl ?_
 have b1:=tNv_bd F n i (m:=12) (by decide)
 have b2:=tNv_bd F n (tNi n i) (m:=3) (by decide)
 have b3:=tNi_le hi
 have b4:=tNi_le b3
 have w1:IntKind.i64.wrap (tNv F n i 12 - 6) = tNv F n i 12 - 6:=w64 (by omega) (by omega)
 have w2:IntKind.i64.wrap (1 + tNv F n (tNi n i) 3) = 1 + tNv F n (tNi n i) 3:=w64 (by omega) (by omega)
 (repeat((conv=>whnf);refine aig ?_))<;>try(conv=>whnf)
 refine And.intro ⟨rfl,by omega,by omega,by omega,fun _ _=>rfl,rfl,by decide,by decide⟩ ?_
 (repeat((conv=>whnf);refine aig ?_))<;>try(conv=>whnf)
 have w3:IntKind.i64.wrap (tNv F n i 12 - 6 + 1) = tNv F n i 12 - 6 + 1:=w64 (by omega) (by omega)
 refine And.intro (fun h5=>?_) (fun h5=>?_)
 ·have h6:0≤IntKind.i64.wrap (tNv F n i 12 - 6):=of_decide_eq_true h5
  rw [w1] at h6
  have c0:nz (tNv F n i 12 - 6) = tNv F n i 12 - 6 + 1:=if_pos h6
  have c1:-9223372036854775808≤IntKind.i64.wrap (IntKind.i64.wrap (tNv F n i 12 - 6) + 1):=by rw [w1,w3];omega
  have c2:IntKind.i64.wrap (IntKind.i64.wrap (tNv F n i 12 - 6) + 1)≤9223372036854775807:=by rw [w1,w3];omega
  have c3:1≤IntKind.i64.wrap (1 + tNv F n (tNi n i) 3):=by rw [w2];omega
  have c4:IntKind.i64.wrap (1 + tNv F n (tNi n i) 3)≤9223372036854775807:=by rw [w2];omega
  have c5:mkRat (IntKind.i64.wrap (IntKind.i64.wrap (tNv F n i 12 - 6) + 1)) (IntKind.i64.wrap (1 + tNv F n (tNi n i) 3)).toNat = tNzV F n i:=by rw [w1,w3,w2];unfold tNzV;rw [c0]
  (repeat((conv=>whnf);refine aig ?_))<;>try(conv=>whnf)
  refine And.intro ⟨rfl,Int.natCast_nonneg _,b3,hn,fun _ _=>rfl,rfl,by decide,by decide⟩ ?_
  (repeat((conv=>whnf);refine aig ?_))<;>try(conv=>whnf)
  all_goals(repeat' first|exact ayg|apply And.intro|exact azg|fail)
  all_goals first | exact fun _ _=>And.intro rfl True.intro | exact c1 | exact c2 | exact c3 | exact c4 | exact c5 | exact fun _ _=>rfl
 ·have h6:¬ 0≤IntKind.i64.wrap (tNv F n i 12 - 6):=of_decide_eq_false h5
  rw [w1] at h6
  have c0:nz (tNv F n i 12 - 6) = tNv F n i 12 - 6:=if_neg h6
  have c1:-9223372036854775808≤IntKind.i64.wrap (tNv F n i 12 - 6):=by rw [w1];omega
  have c2:IntKind.i64.wrap (tNv F n i 12 - 6)≤9223372036854775807:=by rw [w1];omega
  have c3:1≤IntKind.i64.wrap (1 + tNv F n (tNi n i) 3):=by rw [w2];omega
  have c4:IntKind.i64.wrap (1 + tNv F n (tNi n i) 3)≤9223372036854775807:=by rw [w2];omega
  have c5:mkRat (IntKind.i64.wrap (tNv F n i 12 - 6)) (IntKind.i64.wrap (1 + tNv F n (tNi n i) 3)).toNat = tNzV F n i:=by rw [w1,w2];unfold tNzV;rw [c0]
  (repeat((conv=>whnf);refine aig ?_))<;>try(conv=>whnf)
  refine And.intro ⟨rfl,Int.natCast_nonneg _,b3,hn,fun _ _=>rfl,rfl,by decide,by decide⟩ ?_
  (repeat((conv=>whnf);refine aig ?_))<;>try(conv=>whnf)
  all_goals(repeat' first|exact ayg|apply And.intro|exact azg|fail)
  all_goals first | exact fun _ _=>And.intro rfl True.intro | exact c1 | exact c2 | exact c3 | exact c4 | exact c5 | exact fun _ _=>rfl
noncomputable def tnz_s:PSpec Tryz.prog:=⟨93,spT (fun _ _ _ rest=>rest = []) (fun F n i _=>qAv (tNzV F n i) 5) (fun _ n i _=>tRatI n i),spT_ok (ctx_ok TT_ok [next_s,rROf_s]) mixed_ok (fn:=Tryz.f93) (by kernel_rfl) (fun F n i rest hi hn hp=>by subst hp;exact tnz_x F n i hi hn),by kernel_rfl⟩
set_option smartUnfolding false in
theorem tcol_x (F:Nat→Int) (n i:Nat) (hi:i≤n) (hn:n≤1048576):fnOkM ⟨TT,specsOf [trat_s,next_s,rRFromInt_s,rRAdd_s]⟩ Tryz.f40 (tpC F n i) [] (.agg (colC (gCol F n i) 5)) (tpC F n (gCol3 F n i)):=by
 refine And.intro rfl ?_
 have b1:=tNv_bd F n (tRatI n i) (m:=6) (by decide)
 have b2:=tRatI_le hi
 have b3:=gCol1_le hi
 have b4:=tRatI_le b3
 have hK:gColK F n i = 0∨gColK F n i = 1∨gColK F n i = 2∨gColK F n i = 3∨gColK F n i = 4∨gColK F n i = 5:=by unfold gColK;omega
 (repeat((conv=>whnf);refine aig ?_))<;>try(conv=>whnf)
 refine And.intro ⟨rfl,Int.natCast_nonneg _,hi,hn,fun _ _=>rfl,rfl⟩ ?_
 (repeat((conv=>whnf);refine aig ?_))<;>try(conv=>whnf)
 refine And.intro ⟨rfl,Int.natCast_nonneg _,b2,hn,fun _ _=>rfl,rfl,by decide,by decide⟩ ?_
 rcases hK with hk | hk | hk | hk | hk | hk
 ·have e:gCol F n i = ⟨tRatV F n i,true,0,false,0⟩:=by simp [gCol,gColLo,gColUp,hk]
  have eI:gCol3 F n i = gCol1 n i:=by simp [gCol3,gCol2,hk]
  have n1:=tNv_bd F n (gCol1 n i) (m:=5) (by decide)
  have n2:-9223372036854775808≤tNv F n (gCol1 n i) 5∧tNv F n (gCol1 n i) 5≤9223372036854775807:=by omega
  have z5:Sz (gCol F n i).up 5:=sz_up F n i
  rw [e] at z5
  rw [e,eI]
  (repeat((conv=>whnf);refine aig ?_))<;>try(conv=>whnf)
  refine And.intro (fun _=>?_) (fun h=>absurd (show (gColK F n i != 2) = false from h) (by rw [hk];decide))
  (repeat((conv=>whnf);refine aig ?_))<;>try(conv=>whnf)
  refine And.intro (fun _=>?_) (fun h=>absurd (show (gColK F n i != 3) = false from h) (by rw [hk];decide))
  (repeat((conv=>whnf);refine aig ?_))<;>try(conv=>whnf)
  refine And.intro (fun h=>absurd (show decide (gColK F n i > 3) = true from h) (by rw [hk];decide)) (fun _=>?_)
  (repeat((conv=>whnf);refine aig ?_))<;>try(conv=>whnf)
  refine And.intro (fun h=>absurd (show (gColK F n i == 1) = true from h) (by rw [hk];decide)) (fun _=>?_)
  (repeat((conv=>whnf);refine aig ?_))<;>try(conv=>whnf)
  refine And.intro (fun h=>absurd (show (gColK F n i == 2) = true from h) (by rw [hk];decide)) (fun _=>?_)
  (repeat((conv=>whnf);refine aig ?_))<;>try(conv=>whnf)
  refine And.intro (fun h=>absurd (show (gColK F n i == 4) = true from h) (by rw [hk];decide)) (fun _=>?_)
  (repeat((conv=>whnf);refine aig ?_))<;>try(conv=>whnf)
  all_goals(repeat' first|exact ayg|apply And.intro|exact azg|fail)
  all_goals first | exact fun _ _=>And.intro rfl True.intro
 ·have e:gCol F n i = ⟨tRatV F n i,true,0,true,0 + (tNv F n (gCol1 n i) 5:Int)⟩:=by simp [gCol,gColLo,gColUp,gCol2,hk]
  have eI:gCol3 F n i = tNi n (gCol1 n i):=by simp [gCol3,gCol2,hk]
  have n1:=tNv_bd F n (gCol1 n i) (m:=5) (by decide)
  have n2:-9223372036854775808≤tNv F n (gCol1 n i) 5∧tNv F n (gCol1 n i) 5≤9223372036854775807:=by omega
  have z5:Sz (gCol F n i).up 5:=sz_up F n i
  rw [e] at z5
  rw [e,eI]
  (repeat((conv=>whnf);refine aig ?_))<;>try(conv=>whnf)
  refine And.intro (fun _=>?_) (fun h=>absurd (show (gColK F n i != 2) = false from h) (by rw [hk];decide))
  (repeat((conv=>whnf);refine aig ?_))<;>try(conv=>whnf)
  refine And.intro (fun _=>?_) (fun h=>absurd (show (gColK F n i != 3) = false from h) (by rw [hk];decide))
  (repeat((conv=>whnf);refine aig ?_))<;>try(conv=>whnf)
  refine And.intro (fun h=>absurd (show decide (gColK F n i > 3) = true from h) (by rw [hk];decide)) (fun _=>?_)
  (repeat((conv=>whnf);refine aig ?_))<;>try(conv=>whnf)
  refine And.intro (fun _=>?_) (fun h=>absurd (show (gColK F n i == 1) = false from h) (by rw [hk];decide))
  (repeat((conv=>whnf);refine aig ?_))<;>try(conv=>whnf)
  refine And.intro ⟨rfl,Int.natCast_nonneg _,b3,hn,fun _ _=>rfl,rfl,by decide,by decide⟩ ?_
  (repeat((conv=>whnf);refine aig ?_))<;>try(conv=>whnf)
  refine And.intro n2 ?_
  (repeat((conv=>whnf);refine aig ?_))<;>try(conv=>whnf)
  have cU:mkRat ((0:Nat):Int) 0 + mkRat (tNv F n (gCol1 n i) 5) 1 = 0 + (tNv F n (gCol1 n i) 5:Int):=by rw [Rat.mkRat_one];rfl
  have cz:Sz (mkRat ((0:Nat):Int) 0 + mkRat (tNv F n (gCol1 n i) 5) 1) 5:=cU ▸ z5
  all_goals(repeat' first|exact ayg|apply And.intro|exact azg|fail)
  all_goals first | exact fun _ _=>And.intro rfl True.intro | exact cU | exact .inr cz
 ·have e:gCol F n i = ⟨tRatV F n i,false,0,true,0 + (tNv F n (gCol1 n i) 5:Int)⟩:=by simp [gCol,gColLo,gColUp,gCol2,hk]
  have eI:gCol3 F n i = tNi n (gCol1 n i):=by simp [gCol3,gCol2,hk]
  have n1:=tNv_bd F n (gCol1 n i) (m:=5) (by decide)
  have n2:-9223372036854775808≤tNv F n (gCol1 n i) 5∧tNv F n (gCol1 n i) 5≤9223372036854775807:=by omega
  have z5:Sz (gCol F n i).up 5:=sz_up F n i
  rw [e] at z5
  rw [e,eI]
  (repeat((conv=>whnf);refine aig ?_))<;>try(conv=>whnf)
  refine And.intro (fun h=>absurd (show (gColK F n i != 2) = true from h) (by rw [hk];decide)) (fun _=>?_)
  (repeat((conv=>whnf);refine aig ?_))<;>try(conv=>whnf)
  refine And.intro (fun h=>absurd (show (gColK F n i == 1) = true from h) (by rw [hk];decide)) (fun _=>?_)
  (repeat((conv=>whnf);refine aig ?_))<;>try(conv=>whnf)
  refine And.intro (fun _=>?_) (fun h=>absurd (show (gColK F n i == 2) = false from h) (by rw [hk];decide))
  (repeat((conv=>whnf);refine aig ?_))<;>try(conv=>whnf)
  refine And.intro ⟨rfl,Int.natCast_nonneg _,b3,hn,fun _ _=>rfl,rfl,by decide,by decide⟩ ?_
  (repeat((conv=>whnf);refine aig ?_))<;>try(conv=>whnf)
  refine And.intro n2 ?_
  (repeat((conv=>whnf);refine aig ?_))<;>try(conv=>whnf)
  have cU:mkRat ((0:Nat):Int) 0 + mkRat (tNv F n (gCol1 n i) 5) 1 = 0 + (tNv F n (gCol1 n i) 5:Int):=by rw [Rat.mkRat_one];rfl
  have cz:Sz (mkRat ((0:Nat):Int) 0 + mkRat (tNv F n (gCol1 n i) 5) 1) 5:=cU ▸ z5
  all_goals(repeat' first|exact ayg|apply And.intro|exact azg|fail)
  all_goals first | exact fun _ _=>And.intro rfl True.intro | exact cU | exact .inr cz
 ·have e:gCol F n i = ⟨tRatV F n i,false,0,false,0⟩:=by simp [gCol,gColLo,gColUp,hk]
  have eI:gCol3 F n i = gCol1 n i:=by simp [gCol3,gCol2,hk]
  have n1:=tNv_bd F n (gCol1 n i) (m:=5) (by decide)
  have n2:-9223372036854775808≤tNv F n (gCol1 n i) 5∧tNv F n (gCol1 n i) 5≤9223372036854775807:=by omega
  have z5:Sz (gCol F n i).up 5:=sz_up F n i
  rw [e] at z5
  rw [e,eI]
  (repeat((conv=>whnf);refine aig ?_))<;>try(conv=>whnf)
  refine And.intro (fun _=>?_) (fun h=>absurd (show (gColK F n i != 2) = false from h) (by rw [hk];decide))
  (repeat((conv=>whnf);refine aig ?_))<;>try(conv=>whnf)
  refine And.intro (fun h=>absurd (show (gColK F n i != 3) = true from h) (by rw [hk];decide)) (fun _=>?_)
  (repeat((conv=>whnf);refine aig ?_))<;>try(conv=>whnf)
  refine And.intro (fun h=>absurd (show (gColK F n i == 1) = true from h) (by rw [hk];decide)) (fun _=>?_)
  (repeat((conv=>whnf);refine aig ?_))<;>try(conv=>whnf)
  refine And.intro (fun h=>absurd (show (gColK F n i == 2) = true from h) (by rw [hk];decide)) (fun _=>?_)
  (repeat((conv=>whnf);refine aig ?_))<;>try(conv=>whnf)
  refine And.intro (fun h=>absurd (show (gColK F n i == 4) = true from h) (by rw [hk];decide)) (fun _=>?_)
  (repeat((conv=>whnf);refine aig ?_))<;>try(conv=>whnf)
  all_goals(repeat' first|exact ayg|apply And.intro|exact azg|fail)
  all_goals first | exact fun _ _=>And.intro rfl True.intro
 ·have e:gCol F n i = ⟨tRatV F n i,true,tRatV F n (gCol1 n i),true,tRatV F n (gCol1 n i) + (tNv F n (tRatI n (gCol1 n i)) 5:Int)⟩:=by simp [gCol,gColLo,gColUp,gCol2,hk]
  have eI:gCol3 F n i = tNi n (tRatI n (gCol1 n i)):=by simp [gCol3,gCol2,hk]
  have n1:=tNv_bd F n (tRatI n (gCol1 n i)) (m:=5) (by decide)
  have n2:-9223372036854775808≤tNv F n (tRatI n (gCol1 n i)) 5∧tNv F n (tRatI n (gCol1 n i)) 5≤9223372036854775807:=by omega
  have z5:Sz (gCol F n i).up 5:=sz_up F n i
  rw [e] at z5
  rw [e,eI]
  (repeat((conv=>whnf);refine aig ?_))<;>try(conv=>whnf)
  refine And.intro (fun _=>?_) (fun h=>absurd (show (gColK F n i != 2) = false from h) (by rw [hk];decide))
  (repeat((conv=>whnf);refine aig ?_))<;>try(conv=>whnf)
  refine And.intro (fun _=>?_) (fun h=>absurd (show (gColK F n i != 3) = false from h) (by rw [hk];decide))
  (repeat((conv=>whnf);refine aig ?_))<;>try(conv=>whnf)
  refine And.intro (fun _=>?_) (fun h=>absurd (show decide (gColK F n i > 3) = false from h) (by rw [hk];decide))
  (repeat((conv=>whnf);refine aig ?_))<;>try(conv=>whnf)
  refine And.intro ⟨rfl,Int.natCast_nonneg _,b3,hn,fun _ _=>rfl,rfl⟩ ?_
  (repeat((conv=>whnf);refine aig ?_))<;>try(conv=>whnf)
  refine And.intro (fun h=>absurd (show (gColK F n i == 1) = true from h) (by rw [hk];decide)) (fun _=>?_)
  (repeat((conv=>whnf);refine aig ?_))<;>try(conv=>whnf)
  refine And.intro (fun h=>absurd (show (gColK F n i == 2) = true from h) (by rw [hk];decide)) (fun _=>?_)
  (repeat((conv=>whnf);refine aig ?_))<;>try(conv=>whnf)
  refine And.intro (fun _=>?_) (fun h=>absurd (show (gColK F n i == 4) = false from h) (by rw [hk];decide))
  (repeat((conv=>whnf);refine aig ?_))<;>try(conv=>whnf)
  refine And.intro ⟨rfl,Int.natCast_nonneg _,b4,hn,fun _ _=>rfl,rfl,by decide,by decide⟩ ?_
  (repeat((conv=>whnf);refine aig ?_))<;>try(conv=>whnf)
  refine And.intro n2 ?_
  (repeat((conv=>whnf);refine aig ?_))<;>try(conv=>whnf)
  have cU:tRatV F n (gCol1 n i) + mkRat (tNv F n (tRatI n (gCol1 n i)) 5) 1 = tRatV F n (gCol1 n i) + (tNv F n (tRatI n (gCol1 n i)) 5:Int):=by rw [Rat.mkRat_one]
  have cz:Sz (tRatV F n (gCol1 n i) + mkRat (tNv F n (tRatI n (gCol1 n i)) 5) 1) 5:=cU ▸ z5
  all_goals(repeat' first|exact ayg|apply And.intro|exact azg|fail)
  all_goals first | exact fun _ _=>And.intro rfl True.intro | exact cU | exact .inr cz
 ·have e:gCol F n i = ⟨tRatV F n i,true,tRatV F n (gCol1 n i),false,0⟩:=by simp [gCol,gColLo,gColUp,hk]
  have eI:gCol3 F n i = tRatI n (gCol1 n i):=by simp [gCol3,gCol2,hk]
  have n1:=tNv_bd F n (tRatI n (gCol1 n i)) (m:=5) (by decide)
  have n2:-9223372036854775808≤tNv F n (tRatI n (gCol1 n i)) 5∧tNv F n (tRatI n (gCol1 n i)) 5≤9223372036854775807:=by omega
  have z5:Sz (gCol F n i).up 5:=sz_up F n i
  rw [e] at z5
  rw [e,eI]
  (repeat((conv=>whnf);refine aig ?_))<;>try(conv=>whnf)
  refine And.intro (fun _=>?_) (fun h=>absurd (show (gColK F n i != 2) = false from h) (by rw [hk];decide))
  (repeat((conv=>whnf);refine aig ?_))<;>try(conv=>whnf)
  refine And.intro (fun _=>?_) (fun h=>absurd (show (gColK F n i != 3) = false from h) (by rw [hk];decide))
  (repeat((conv=>whnf);refine aig ?_))<;>try(conv=>whnf)
  refine And.intro (fun _=>?_) (fun h=>absurd (show decide (gColK F n i > 3) = false from h) (by rw [hk];decide))
  (repeat((conv=>whnf);refine aig ?_))<;>try(conv=>whnf)
  refine And.intro ⟨rfl,Int.natCast_nonneg _,b3,hn,fun _ _=>rfl,rfl⟩ ?_
  (repeat((conv=>whnf);refine aig ?_))<;>try(conv=>whnf)
  refine And.intro (fun h=>absurd (show (gColK F n i == 1) = true from h) (by rw [hk];decide)) (fun _=>?_)
  (repeat((conv=>whnf);refine aig ?_))<;>try(conv=>whnf)
  refine And.intro (fun h=>absurd (show (gColK F n i == 2) = true from h) (by rw [hk];decide)) (fun _=>?_)
  (repeat((conv=>whnf);refine aig ?_))<;>try(conv=>whnf)
  refine And.intro (fun h=>absurd (show (gColK F n i == 4) = true from h) (by rw [hk];decide)) (fun _=>?_)
  (repeat((conv=>whnf);refine aig ?_))<;>try(conv=>whnf)
  all_goals(repeat' first|exact ayg|apply And.intro|exact azg|fail)
  all_goals first | exact fun _ _=>And.intro rfl True.intro
noncomputable def tcol_s:PSpec Tryz.prog:=⟨40,spT (fun _ _ _ rest=>rest = []) (fun F n i _=>.agg (colC (gCol F n i) 5)) (fun F n i _=>gCol3 F n i),spT_ok (ctx_ok TT_ok [trat_s,next_s,rRFromInt_s,rRAdd_s]) mixed_ok (fn:=Tryz.f40) (by kernel_rfl) (fun F n i rest hi hn hp=>by subst hp;exact tcol_x F n i hi hn),by kernel_rfl⟩
set_option smartUnfolding false in
theorem trow_x (F:Nat→Int) (n i m:Nat) (hi:i≤n) (hn:n≤1048576) (hm:m≤1048576):fnOkM ⟨TT,specsOf [next_s,trat_s,tnz_s]⟩ Tryz.f38 (tpC F n i) [.val (.int .i64 (m:Int))] (.agg (rowC (gRow F n i m) 5)) (tpC F n (gRow2 F n i m)):=by
 refine And.intro rfl ?_
 have b1:=tNv_bd F n i (m:=3) (by decide)
 have w0:IntKind.i64.wrap (tNv F n i 3 - 1) = tNv F n i 3 - 1:=w64 (by omega) (by omega)
 (repeat((conv=>whnf);refine aig ?_))<;>try(conv=>whnf)
 refine And.intro ⟨rfl,Int.natCast_nonneg _,hi,hn,fun _ _=>rfl,rfl,by decide,by decide⟩ ?_
 (repeat((conv=>whnf);refine aig ?_))<;>try(conv=>whnf)
 refine And.intro ⟨rfl,Int.natCast_nonneg _,(tNi_le hi),hn,fun _ _=>rfl,rfl⟩ ?_
 (repeat((conv=>whnf);refine aig ?_))<;>try(conv=>whnf)
 refine ⟨⟨Nat,fun j=>j≤m,fun j=>[.slot 6 (.val (.int .i64 (j:Int))),.own 6 117 4 (gEn F n (gRow1 n i) j).1.length (fun k=>entN ((gEn F n (gRow1 n i) j).1.getD k (0,0)) 5),.obj 5 (.cons (.val (.int .i64 (tNv F n i 3 - 1))) (.cons (.ratC (tRatV F n (tNi n i)) 5) (.cons (.row 6) .nil))),.obj 0 (tpC F n (gEn F n (gRow1 n i) j).2)],fun j=>m - j,0⟩,0,Nat.zero_le _,?_⟩
 conv=>whnf
 refine And.intro ?_ ?_
 ·all_goals(repeat' first|exact ayg|apply And.intro|exact azg|fail)
  all_goals first | exact fun _ _=>And.intro rfl True.intro | exact congrArg (Value.int .i64) w0.symm | exact congrArg (Value.int .i64) w0
 conv=>whnf
 rintro j h2
 have hl:=gEn_len (F:=F) (n:=n) (i:=gRow1 n i) j
 have hj:=gEn_le (F:=F) (n:=n) (i:=gRow1 n i) (tRatI_le (tNi_le hi)) j
 (repeat((conv=>whnf);refine aig ?_))<;>try(conv=>whnf)
 refine And.intro (fun h5=>?_) (fun h5=>?_)
 ·have h6:(j:Int) < m:=of_decide_eq_true h5
  have w1:IntKind.i64.wrap ((j:Int) + 1) = (j:Int) + 1:=w64 (by omega) (by omega)
  (repeat((conv=>whnf);refine aig ?_))<;>try(conv=>whnf)
  refine And.intro ⟨rfl,Int.natCast_nonneg _,hj,hn,fun _ _=>rfl,rfl,by decide,by decide⟩ ?_
  (repeat((conv=>whnf);refine aig ?_))<;>try(conv=>whnf)
  refine And.intro (fun h7=>?_) (fun h7=>?_)
  ·have h8:0 < tNv F n (gEn F n (gRow1 n i) j).2 3:=of_decide_eq_true h7
   have e:=gEn_t h8
   (repeat((conv=>whnf);refine aig ?_))<;>try(conv=>whnf)
   refine And.intro ⟨rfl,Int.natCast_nonneg _,(tNi_le hj),hn,fun _ _=>rfl,rfl⟩ ?_
   (repeat((conv=>whnf);refine aig ?_))<;>try(conv=>whnf)
   refine ⟨j + 1,(show j + 1≤m by omega),(show m - (j + 1) < m - j by omega),?_⟩
   conv=>whnf
   all_goals(repeat' first|exact ayg|apply And.intro|exact azg|fail)
   all_goals first | exact fun _ _=>And.intro rfl True.intro | exact congrArg (fun p:List (Int × Rat) × Nat=>Value.int .i64 (p.2:Int)) e | exact (congrArg (fun p:List (Int × Rat) × Nat=>Value.int .i64 (p.2:Int)) e).symm | exact congrArg (Value.int .i64) w1 | exact en_push (congrArg (·.1) e) | (rw [e];simp;done)
  ·have h8:¬ 0 < tNv F n (gEn F n (gRow1 n i) j).2 3:=of_decide_eq_false h7
   have e:=gEn_f h8
   (repeat((conv=>whnf);refine aig ?_))<;>try(conv=>whnf)
   refine ⟨j + 1,(show j + 1≤m by omega),(show m - (j + 1) < m - j by omega),?_⟩
   conv=>whnf
   all_goals(repeat' first|exact ayg|apply And.intro|exact azg|fail)
   all_goals first | exact fun _ _=>And.intro rfl True.intro | exact congrArg (fun p:List (Int × Rat) × Nat=>Value.int .i64 (p.2:Int)) e | exact (congrArg (fun p:List (Int × Rat) × Nat=>Value.int .i64 (p.2:Int)) e).symm | exact congrArg (Value.int .i64) w1 | exact en_same (congrArg (·.1) e) | exact congrArg (·.1.length) e.symm
 ·have h6:¬ (j:Int) < m:=of_decide_eq_false h5
  obtain rfl:j = m:=by omega
  (repeat((conv=>whnf);refine aig ?_))<;>try(conv=>whnf)
  all_goals(repeat' first|exact ayg|apply And.intro|exact azg|fail)
  all_goals first | exact fun _ _=>And.intro rfl True.intro | exact en_done
theorem trow_y (F:Nat→Int) (n i:Nat) (rest:List Av) (hi:i≤n) (hn:n≤1048576) (hp:one1 0 1048576 rest):fnOkM ⟨TT,specsOf [next_s,trat_s,tnz_s]⟩ Tryz.f38 (tpC F n i) rest (.agg (rowC (gRow F n i (a1 rest).toNat) 5)) (tpC F n (gRow2 F n i (a1 rest).toNat)):=by
 have e:rest = [.val (.int .i64 ((a1 rest).toNat:Int))]:=by rw [Int.toNat_of_nonneg hp.2.1];exact hp.1
 have h:=trow_x F n i (a1 rest).toNat hi hn (by have:=hp.2;omega)
 rw [← e] at h
 exact h
noncomputable def trow_s:PSpec Tryz.prog:=⟨38,spT (fun _ _ _ rest=>one1 0 1048576 rest) (fun F n i rest=>.agg (rowC (gRow F n i (a1 rest).toNat) 5)) (fun F n i rest=>gRow2 F n i (a1 rest).toNat),spT_ok (ctx_ok TT_ok [next_s,trat_s,tnz_s]) mixed_ok (fn:=Tryz.f38) (by kernel_rfl) (fun F n i rest hi hn hp=>trow_y F n i rest hi hn hp),by kernel_rfl⟩
set_option smartUnfolding false in
theorem tprg_x (F:Nat→Int) (n i:Nat) (hi:i≤n) (hn:n≤1048576):fnOkM ⟨TT,specsOf [next_s,tcol_s,trow_s]⟩ Tryz.f70 (tpC F n i) [.val (.int .i64 4),.val (.int .i64 4)] (prgAv (gPrg F n i 4 4) 5) (tpC F n (gP2 F n i 4 4)):=by
 refine And.intro rfl ?_
 have b1:=tNv_bd F n i (m:=4) (by decide)
 have b2:=tNi_le hi
 have b3:gP1 F n i 4≤n:=gCsI_le b2 _
 have b4:=tNv_bd F n (gP1 F n i 4) (m:=5) (by decide)
 have b5:=tNi_le b3
 have wN:IntKind.i64.wrap (1 + tNv F n i 4) = (gNc F n i 4:Int):=(w64 (by omega) (by omega)).trans (by unfold gNc;omega)
 have wR:tNv F n (gP1 F n i 4) 5 = (gNr F n i 4 4:Int):=(Int.toNat_of_nonneg b4.1).symm
 have nN:gNc F n i 4≤4:=by unfold gNc;omega
 have nR:gNr F n i 4 4≤4:=by omega
 (repeat((conv=>whnf);refine aig ?_))<;>try(conv=>whnf)
 refine And.intro ⟨rfl,Int.natCast_nonneg _,hi,hn,fun _ _=>rfl,rfl,by decide,by decide⟩ ?_
 (repeat((conv=>whnf);refine aig ?_))<;>try(conv=>whnf)
 refine ⟨⟨Nat,fun k=>k≤gNc F n i 4,fun k=>[.slot 8 (.val (.int .i64 ((gNc F n i 4:Int) - (k:Int)))),.own 8 61 11 k (fun j=>colC (gCs F n (tNi n i) j) 5),.obj 7 (.cons (.row 8) (.cons nilA .nil)),.obj 0 (tpC F n (gCsI F n (tNi n i) k))],fun k=>gNc F n i 4 - k,0⟩,0,Nat.zero_le _,?_⟩
 conv=>whnf
 refine And.intro ?_ ?_
 ·all_goals(repeat' first|exact ayg|apply And.intro|exact azg|fail)
  all_goals first | exact fun _ _=>And.intro rfl True.intro | exact congrArg (Value.int .i64) (wN.trans (Int.sub_zero _).symm) | exact congrArg (Value.int .i64) (wN.trans (Int.sub_zero _).symm).symm
 conv=>whnf
 rintro k h2
 have hk:=gCsI_le (F:=F) b2 k
 (repeat((conv=>whnf);refine aig ?_))<;>try(conv=>whnf)
 refine And.intro (fun h5=>?_) (fun h5=>?_)
 ·have h6:(0:Int) < (gNc F n i 4:Int) - (k:Int):=of_decide_eq_true h5
  have w1:IntKind.i64.wrap ((gNc F n i 4:Int) - (k:Int) - 1) = (gNc F n i 4:Int) - ((k + 1:Nat):Int):=(w64 (by omega) (by omega)).trans (by omega)
  (repeat((conv=>whnf);refine aig ?_))<;>try(conv=>whnf)
  refine And.intro ⟨rfl,Int.natCast_nonneg _,hk,hn,fun _ _=>rfl,rfl⟩ ?_
  (repeat((conv=>whnf);refine aig ?_))<;>try(conv=>whnf)
  refine ⟨k + 1,(show k + 1≤gNc F n i 4 by omega),(show gNc F n i 4 - (k + 1) < gNc F n i 4 - k by omega),?_⟩
  conv=>whnf
  all_goals(repeat' first|exact ayg|apply And.intro|exact azg|fail)
  all_goals first | exact fun _ _=>And.intro rfl True.intro | exact congrArg (Value.int .i64) w1 | exact col_push
 have h6:¬ (0:Int) < (gNc F n i 4:Int) - (k:Int):=of_decide_eq_false h5
 obtain rfl:k = gNc F n i 4:=by omega
 (repeat((conv=>whnf);refine aig ?_))<;>try(conv=>whnf)
 refine And.intro ⟨rfl,Int.natCast_nonneg _,b3,hn,fun _ _=>rfl,rfl,by decide,by decide⟩ ?_
 (repeat((conv=>whnf);refine aig ?_))<;>try(conv=>whnf)
 refine ⟨⟨Nat,fun k=>k≤gNr F n i 4 4,fun k=>[.slot 9 (.val (.int .i64 ((gNr F n i 4 4:Int) - (k:Int)))),.own 9 56 5 k (fun j=>rowC (gRs F n (tNi n (gP1 F n i 4)) (gNc F n i 4) j) 5),.obj 7 (.cons (.row 8) (.cons (.row 9) .nil)),.obj 0 (tpC F n (gRsI F n (tNi n (gP1 F n i 4)) (gNc F n i 4) k))],fun k=>gNr F n i 4 4 - k,0⟩,0,Nat.zero_le _,?_⟩
 conv=>whnf
 refine And.intro ?_ ?_
 ·all_goals(repeat' first|exact ayg|apply And.intro|exact azg|fail)
  all_goals first | exact fun _ _=>And.intro rfl True.intro | exact congrArg (Value.int .i64) (wR.trans (Int.sub_zero _).symm) | exact congrArg (Value.int .i64) (wR.trans (Int.sub_zero _).symm).symm
 conv=>whnf
 rintro k h7
 have hk:=gRsI_le (F:=F) (m:=gNc F n i 4) b5 k
 (repeat((conv=>whnf);refine aig ?_))<;>try(conv=>whnf)
 refine And.intro (fun h8=>?_) (fun h8=>?_)
 ·have h9:(0:Int) < (gNr F n i 4 4:Int) - (k:Int):=of_decide_eq_true h8
  have w1:IntKind.i64.wrap ((gNr F n i 4 4:Int) - (k:Int) - 1) = (gNr F n i 4 4:Int) - ((k + 1:Nat):Int):=(w64 (by omega) (by omega)).trans (by omega)
  (repeat((conv=>whnf);refine aig ?_))<;>try(conv=>whnf)
  refine And.intro ⟨rfl,Int.natCast_nonneg _,hk,hn,fun _ _=>rfl,rfl,Int.natCast_nonneg _,by show (gNc F n i 4:Int)≤1048576;omega⟩ ?_
  (repeat((conv=>whnf);refine aig ?_))<;>try(conv=>whnf)
  refine ⟨k + 1,(show k + 1≤gNr F n i 4 4 by omega),(show gNr F n i 4 4 - (k + 1) < gNr F n i 4 4 - k by omega),?_⟩
  conv=>whnf
  all_goals(repeat' first|exact ayg|apply And.intro|exact azg|fail)
  all_goals first | exact fun _ _=>And.intro rfl True.intro | exact congrArg (Value.int .i64) w1 | exact row_push
 have h9:¬ (0:Int) < (gNr F n i 4 4:Int) - (k:Int):=of_decide_eq_false h8
 obtain rfl:k = gNr F n i 4 4:=by omega
 (repeat((conv=>whnf);refine aig ?_))<;>try(conv=>whnf)
 all_goals(repeat' first|exact ayg|apply And.intro|exact azg|fail)
 all_goals first | exact fun _ _=>And.intro rfl True.intro | exact (gPrg_cols _ _ _ _ _).symm | exact (gPrg_rows _ _ _ _ _).symm | exact cols_done | exact rows_done
noncomputable def tprg_s:PSpec Tryz.prog:=⟨70,spT (fun _ _ _ rest=>rest = [.val (.int .i64 4),.val (.int .i64 4)]) (fun F n i _=>prgAv (gPrg F n i 4 4) 5) (fun F n i _=>gP2 F n i 4 4),spT_ok (ctx_ok TT_ok [next_s,tcol_s,trow_s]) mixed_ok (fn:=Tryz.f70) (by kernel_rfl) (fun F n i rest hi hn hp=>by subst hp;exact tprg_x F n i hi hn),by kernel_rfl⟩
set_option smartUnfolding false in
theorem gprg_x (F:Nat→Int) (n:Nat) (p:Prg) (hn:n≤1048576) (hp:p = gPrg F n 0 4 4):fnOk ⟨TT,specsOf [tnew_s,tprg_s]⟩ Tryz.f17 [tA F n] (prgAv p 5):=by
 subst hp
 (repeat((conv=>whnf);refine aig ?_))<;>try(conv=>whnf)
 refine And.intro ⟨rfl,hn,fun _ _=>rfl⟩ ?_
 (repeat((conv=>whnf);refine aig ?_))<;>try(conv=>whnf)
 refine And.intro ⟨rfl,Int.natCast_nonneg 0,Nat.zero_le _,hn,fun _ _=>rfl,rfl⟩ ?_
 (repeat((conv=>whnf);refine aig ?_))<;>try(conv=>whnf)
 exact prg_fit _ (Nat.le_refl 5)
noncomputable def gprg_s:PSpec Tryz.prog:=⟨17,ghSpec (((Nat→Int) × Nat) × Prg) (fun | ((F,n),_)=>[tA F n]) (fun | ((F,n),p)=>n≤1048576∧p = gPrg F n 0 4 4) (fun | (_,p)=>prgAv p 5),ghSpec_ok (fn:=Tryz.f17) (ctx_ok TT_ok [tnew_s,tprg_s]) mixed_ok (by kernel_rfl) (fun | ((F,n),p),hp=>gprg_x F n p hp.1 hp.2),by kernel_rfl⟩
end Go.Proofs.YtfgkecffpkdjcaaGreat
