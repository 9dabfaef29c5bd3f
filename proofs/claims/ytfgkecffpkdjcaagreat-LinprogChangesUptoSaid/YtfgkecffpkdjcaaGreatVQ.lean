/- The other functions of package rational and of reference 03, by the executor. -/
import Derived.Test.YtfgkecffpkdjcaaGreatVR
namespace Go.Proofs.YtfgkecffpkdjcaaGreat
open Go.RowKit Gm Go.Vx
theorem sgz (n:Int):(sgn n == 0) = true↔n = 0:=by
 rw [beq_iff_eq];unfold sgn;split <;> (try split) <;> omega
theorem w64 {x:Int} (h1:-9223372036854775808≤x) (h2:x≤9223372036854775807):IntKind.i64.wrap x = x:=(Go.IntWalk.i64_left x).trans (Go.IntWalk.wrap64_in x ⟨h1,h2⟩)
theorem cmpR_gt {r s:Rat}:0 < cmpR r s↔s < r:=by
 unfold cmpR
 by_cases h1:r < s
 ·rw [if_pos h1];exact ⟨fun h=>by omega,fun h=>absurd h1 (Rat.not_lt.2 (Rat.le_of_lt h))⟩
 ·rw [if_neg h1]
  by_cases h2:s < r
  ·rw [if_pos h2];exact ⟨fun _=>h2,fun _=>by omega⟩
  ·rw [if_neg h2];exact ⟨fun h=>by omega,fun h=>absurd h h2⟩
theorem cmpR_lt {r s:Rat}:cmpR r s < 0↔r < s:=by
 unfold cmpR
 by_cases h1:r < s
 ·rw [if_pos h1];exact ⟨fun _=>h1,fun _=>by omega⟩
 ·rw [if_neg h1]
  by_cases h2:s < r
  ·rw [if_pos h2];exact ⟨fun h=>by omega,fun h=>absurd h h1⟩
  ·rw [if_neg h2];exact ⟨fun h=>by omega,fun h=>absurd h h1⟩
theorem sgn_pos {r:Rat}:0 < sgn r.num↔0 < r:=by
 have e:0 < r↔0 < r.num:=by rw [Rat.lt_iff];simp
 rw [e];unfold sgn;split <;> (try split) <;> omega
theorem sgn_neg {r:Rat}:sgn r.num < 0↔r < 0:=by
 have e:r < 0↔r.num < 0:=by rw [Rat.lt_iff];simp
 rw [e];unfold sgn;split <;> (try split) <;> omega
theorem mkRat_one' (n:Int):mkRat n 1 = (n:Rat):=Rat.mkRat_one n
set_option smartUnfolding false in
set_option maxRecDepth 100000 in
theorem RFI_x (n:Int) (h:-9223372036854775808≤n∧n≤9223372036854775807):fnOk ⟨TT,specsOf [IFromInt_s]⟩ Tryz.f77 [.val (.int .i64 n)] (qAv (mkRat n 1) 2):=by
 (repeat((conv=>whnf);refine akg ?_))<;>try(conv=>whnf)
 exact And.intro (And.intro (by rw [mkRat_one'];rfl) (And.intro (by rw [mkRat_one'];rfl) (.inl (by omega)))) True.intro
set_option maxRecDepth 100000 in
noncomputable def RFI_s:PSpec Tryz.prog:=⟨77,spI (fun n=>qAv (mkRat n 1) 2) (fun n=>-9223372036854775808≤n∧n≤9223372036854775807),spI_ok fun _ _ n ho h=>fn_ok (ctx_ok TT_ok [IFromInt_s]) mixed_ok (fn:=Tryz.f77) (by kernel_rfl) (RFI_x n h) ho (.cons (fun _ _=>rfl) .nil),by kernel_rfl⟩
end Go.Proofs.YtfgkecffpkdjcaaGreat
