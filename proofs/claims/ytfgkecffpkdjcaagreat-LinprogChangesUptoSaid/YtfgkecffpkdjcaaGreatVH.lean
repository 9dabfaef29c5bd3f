/- Package certify by the executor: Solution, Shorten. -/
import Derived.Test.YtfgkecffpkdjcaaGreatVF
namespace Go.Proofs.YtfgkecffpkdjcaaGreat
open Go.RowKit Gm Go.Vx
theorem seq (r:Rat):(sgn r.num == 0) = pb (r = 0):=(pb_of (sgq r)).symm
def ilAv (l:List Int):Av:=.list 1 l.length (fun i=>.cons (.val (.int .i64 (l.getD i 0))) .nil)
def solC (s:Int) (v:Rat) (x y r:List Rat) (b c:List Int) (K:Nat):Av:=.cons (.val (.int .i64 s)) (.cons (.rat v K) (.cons (rlAv x K) (.cons (rlAv y K) (.cons (rlAv r K) (.cons (ilAv b) (.cons (ilAv c) .nil))))))
structure PS (p:Prg) (x y r:List Rat) (K M:Nat):Prop where
 fx:PX p x K M
 fr:PX p r K M
 fy:PY p y K M
 ff:PY p.free y K M
 two:2≤K
noncomputable def cand (q:Rat) (d:Int):Rat:=if 0 < q then bel q d else if q < 0 then abv q d else 0
noncomputable def candL (y:List Rat) (d:Int):List Rat:=y.map fun q=>cand q d
def pw (i:Nat):Rat:=(((2 ^ i:Nat):Int):Rat)
structure SH (p:Prg) (y:List Rat) (K M:Nat):Prop where
 l:y.length≤1048576
 hK:K≤1048576
 h1:1≤K
 z:∀ j,Sz (rg y j) K
 c:∀ i,PY p (candL y (pw i).num) (K + 2) M
end Go.Proofs.YtfgkecffpkdjcaaGreat
