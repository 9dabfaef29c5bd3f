/- How programs, lists of numbers and solutions that came in are opened. -/
import Derived.Test.YtfgkecffpkdjcaaGreatOL
import Derived.Test.YtfgkecffpkdjcaaGreatLZ
import Derived.Test.YtfgkecffpkdjcaaGreatVH
namespace Go.Proofs.YtfgkecffpkdjcaaGreat
open Go.ChangeShapes Go.WideShapes Go.ChangeAt Go.RowKit Go.Joins Gm Go.Vx
section
variable {H:Type} {enc:TypeId × Value→H} {W:World}
instance:Inhabited LCol:=⟨colZ⟩
instance:Inhabited LRow:=⟨rowZ⟩
theorem opn_int {t:TypeId} {fuel:Nat} {cs:List Value} {y:DataW H × List MemPlace} (ht:Tryz.prog.underlying t = some (.int .i64)) (h:DataW.trod enc Tryz.prog W 0 (fun _=>true) true fuel t cs = some y):∃ z,Opn W (.val (.int .i64 z)) cs:=by
 obtain ⟨z,rfl,_⟩:=DataW.trod_int ht h
 exact ⟨z,fun _ _=>rfl,by simp [Value.oneCell']⟩
theorem opn_il {B fuel:Nat} {v:Value} {y:DataW H × List MemPlace} (h:DataW.trod enc Tryz.prog W 0 (fun _=>true) true fuel 22 [v] = some y) (hB:Rows.uptoBulk y.1≤B):∃ l:List Int,Opn W (.cons (ilAv l) .nil) [v]∧l.length≤Rows.uptoBulk y.1:=by
 obtain ⟨l,h1,_,h3,_⟩:=open_list (α:=Int) (sz:=1) (B:=B) (by decide) Tryz.underlying22 (by kernel_rfl) (fun _=>[]) (fun z=>.cons (.val (.int .i64 z)) .nil) 0 (fun _=>True) (fun fuel cs y hy _=>by
  obtain ⟨z,a⟩:=opn_int Tryz.underlying3 hy
  exact ⟨z,⟨fun w' hg=>⟨cs,[],(List.append_nil _).symm,a.r w' hg,rfl⟩,a.o⟩,Wt.nil _,trivial⟩) h hB
 exact ⟨l,h1,h3⟩
set_option maxRecDepth 100000 in
theorem opn_il_v {base:Nat} {v:Value} {d:DataW H} {pl:List MemPlace} (hv:Value.okWide Tryz.prog W .any base 22 v) (h:DataW.Trod enc Tryz.prog W 0 (fun _=>true) true 22 v d pl) (hB:Rows.uptoBulk d≤1048576) :
  ∃ l:List Int,Rob (fun _=>False) W (ilAv l) [v]∧l.length≤1048576:=by
 obtain ⟨a0,len,cap,rfl⟩:=okWide_slice Tryz.underlying22 hv
 obtain ⟨fuel,hf⟩:=h
 obtain ⟨x,h1,h3⟩:=opn_il (B:=1048576) (v:=.slice a0 len cap) (by simpa [Value.cells] using hf) hB
 refine ⟨x,fun w' hg=>?_,Nat.le_trans h3 hB⟩
 obtain ⟨u,z,e,hu,hz⟩:=h1.r w' hg
 cases hz
 rw [List.append_nil] at e
 rw [e];exact hu
structure SolD where
 s:Int
 v:Rat
 x:List Rat
 y:List Rat
 r:List Rat
 b:List Int
 c:List Int
def SolD.av (d:SolD) (K:Nat):Av:=solC d.s d.v d.x d.y d.r d.b d.c K
end
end Go.Proofs.YtfgkecffpkdjcaaGreat
