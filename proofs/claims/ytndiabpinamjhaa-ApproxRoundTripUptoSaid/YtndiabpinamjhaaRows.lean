/-
  No cell of these rows narrows 'for every input' (looked for: loops, veiled, ifaces, maps, wideKeys, modest, calm, conditions, laid).
  DERIVED. THE GIVEN ROWS OF THIS SEAT. 3 by the template 'for every input the law returns true; each argument reads behind the call as it read before'; 0 by the template 'total and deterministic' (their statements: YtndiabpinamjhaaTotals.lean).
  GIVEN WITH THE SEED: the statements are not yours to turn. If you find one false, say at which input.
  Laid BY PROGRAM, IN A SANDBOX (cutbox-rows.mjs): the forced cells as the released guide's own fill.sh prints them over the translation 0f84a510fe86b8b9… (all of the seat's roots in one cut). By AI agents, Wed Nov 11 2026. No macro, syntax, notation, axiom, sorry.
-/
import Derived.Test.YtndiabpinamjhaaChecked
import GoSem.Claim
import GoSem.ClaimJoined
import GoSem.ClaimMapViews
import Derived.JoinedTies
import Derived.KernelRfl
namespace Go.Proofs.Ytndiabpinamjhaa
/- THE CELL 'sum', in the pinned program and in every row, IS THE sha256 OF THE DUMP (.gsa) THAT YtndiabpinamjhaaProg.lean LOADS. Nothing in Lean hashes anything: it is a label: what it is worth is what the hold of that sum in a sandbox is worth. -/
noncomputable def Try.pinned : Pinned := { name := "ytndiabpinamjhaa", sum := "0f84a510fe86b8b96f31f3e34e8d4acbd68b32bce12335799dc0e1a02215f2ae", checked := Try.checked }
namespace Rows
def none {H : Type} : Left H := { results := [], args := [] }

/-- 'gridmarketlaw03.RationalArithmetic': WHATEVER THE INPUT: true; the input reads as it did. -/
def rationalArithmeticSpec : ChangeSpec := { name := "rationalArithmetic", fn := fun _ => fun
  | [d1, d2] => { results := [.lit (.bool true)], args := [d1, d2] }
  | _ => none }
def rationalArithmeticRow : OpenClaim := { program := "ytndiabpinamjhaa", sum := "0f84a510fe86b8b96f31f3e34e8d4acbd68b32bce12335799dc0e1a02215f2ae", func := "gridmarket/gridmarketlaw03.RationalArithmetic", spec := "rationalArithmetic", unfollowed := true, recurses := true, apart := false }
def RationalArithmeticSaid : Prop := rationalArithmeticRow.holds Try.pinned (OpenSpec.ofChange rationalArithmeticSpec)

/-- ITS FALSE NEIGHBOUR: 'it returns false'. Refute it at one input. -/
def rationalArithmeticWrong : ChangeSpec := { name := "rationalArithmetic", fn := fun _ => fun
  | [d1, d2] => { results := [.lit (.bool false)], args := [d1, d2] }
  | _ => none }
def RationalArithmeticWrongFalsely : Prop := rationalArithmeticRow.holds Try.pinned (OpenSpec.ofChange rationalArithmeticWrong)

/-- 'gridmarketlaw05.ApproxRoundTrip': WHATEVER THE INPUT: true; the input reads as it did. -/
def approxRoundTripSpec : ChangeSpec := { name := "approxRoundTrip", fn := fun _ => fun
  | [d] => { results := [.lit (.bool true)], args := [d] }
  | _ => none }
def approxRoundTripRow : OpenClaim := { program := "ytndiabpinamjhaa", sum := "0f84a510fe86b8b96f31f3e34e8d4acbd68b32bce12335799dc0e1a02215f2ae", func := "gridmarket/gridmarketlaw05.ApproxRoundTrip", spec := "approxRoundTrip", unfollowed := true, recurses := true, apart := false }
def ApproxRoundTripSaid : Prop := approxRoundTripRow.holds Try.pinned (OpenSpec.ofChange approxRoundTripSpec)

/-- ITS FALSE NEIGHBOUR: 'it returns false'. Refute it at one input. -/
def approxRoundTripWrong : ChangeSpec := { name := "approxRoundTrip", fn := fun _ => fun
  | [d] => { results := [.lit (.bool false)], args := [d] }
  | _ => none }
def ApproxRoundTripWrongFalsely : Prop := approxRoundTripRow.holds Try.pinned (OpenSpec.ofChange approxRoundTripWrong)

/-- 'gridmarketlaw05.ApproxMonotone': WHATEVER THE INPUT: true; the input reads as it did. -/
def approxMonotoneSpec : ChangeSpec := { name := "approxMonotone", fn := fun _ => fun
  | [d1, d2, d3] => { results := [.lit (.bool true)], args := [d1, d2, d3] }
  | _ => none }
def approxMonotoneRow : OpenClaim := { program := "ytndiabpinamjhaa", sum := "0f84a510fe86b8b96f31f3e34e8d4acbd68b32bce12335799dc0e1a02215f2ae", func := "gridmarket/gridmarketlaw05.ApproxMonotone", spec := "approxMonotone", unfollowed := true, recurses := true, apart := false }
def ApproxMonotoneSaid : Prop := approxMonotoneRow.holds Try.pinned (OpenSpec.ofChange approxMonotoneSpec)

/-- ITS FALSE NEIGHBOUR: 'it returns false'. Refute it at one input. -/
def approxMonotoneWrong : ChangeSpec := { name := "approxMonotone", fn := fun _ => fun
  | [d1, d2, d3] => { results := [.lit (.bool false)], args := [d1, d2, d3] }
  | _ => none }
def ApproxMonotoneWrongFalsely : Prop := approxMonotoneRow.holds Try.pinned (OpenSpec.ofChange approxMonotoneWrong)

/- THE SECOND FORM. 'bulk': how many values and letters a reading holds, each counted each time it is reached (what is shared counts as often as it is met; a slice's spare places count too). A statement '..UptoSaid' is the law's where the arguments, and the package variables that the reading takes, are together of bulk at most 1048576: NARROWER than '..Said'. Prove '..Said' where nothing that the law and all that it calls make is longer than what came in: it says more and counts as full. Else prove '..UptoSaid'. A law counts once. -/
mutual
def uptoBulk {H : Type} : DataW H → Nat
  | .lit (.string bytes) => bytes.length + 1
  | .lit _ => 1
  | .nil => 1
  | .ptr d => uptoBulk d + 1
  | .slice elems spare => uptoBulkAll elems + uptoBulkAll spare + 1
  | .agg parts => uptoBulkAll parts + 1
  | .iface _ d => uptoBulk d + 1
  | .map entries => uptoBulkEntries entries + 1
  | .held _ => 1
def uptoBulkAll {H : Type} : List (DataW H) → Nat
  | [] => 0
  | d :: r => uptoBulk d + uptoBulkAll r
def uptoBulkEntries {H : Type} : List (Lit × DataW H) → Nat
  | [] => 0
  | x :: r => uptoBulkEntry x + uptoBulkEntries r
def uptoBulkEntry {H : Type} : Lit × DataW H → Nat
  | (.string bytes, d) => bytes.length + uptoBulk d + 1
  | (_, d) => uptoBulk d + 1
 end
def uptoSmall : (H : Type) → List (DataW H) → Bool := fun _ ds => decide (uptoBulkAll ds ≤ 1048576)
def OpenSpec.upto (s : _root_.Go.ChangeSpec) : _root_.Go.OpenSpec := { _root_.Go.OpenSpec.ofChange s with cond := some uptoSmall }

/-- 'gridmarketlaw03.RationalArithmetic', WHERE WHAT IT READS IS OF BULK AT MOST 1048576: true; the input reads as it did. -/
def rationalArithmeticUptoRow : OpenClaim := { program := "ytndiabpinamjhaa", sum := "0f84a510fe86b8b96f31f3e34e8d4acbd68b32bce12335799dc0e1a02215f2ae", func := "gridmarket/gridmarketlaw03.RationalArithmetic", spec := "rationalArithmetic", unfollowed := true, recurses := true, apart := false, narrowed := true }
def RationalArithmeticUptoSaid : Prop := rationalArithmeticUptoRow.holds Try.pinned (OpenSpec.upto rationalArithmeticSpec)

/-- 'gridmarketlaw05.ApproxRoundTrip', WHERE WHAT IT READS IS OF BULK AT MOST 1048576: true; the input reads as it did. -/
def approxRoundTripUptoRow : OpenClaim := { program := "ytndiabpinamjhaa", sum := "0f84a510fe86b8b96f31f3e34e8d4acbd68b32bce12335799dc0e1a02215f2ae", func := "gridmarket/gridmarketlaw05.ApproxRoundTrip", spec := "approxRoundTrip", unfollowed := true, recurses := true, apart := false, narrowed := true }
def ApproxRoundTripUptoSaid : Prop := approxRoundTripUptoRow.holds Try.pinned (OpenSpec.upto approxRoundTripSpec)

/-- 'gridmarketlaw05.ApproxMonotone', WHERE WHAT IT READS IS OF BULK AT MOST 1048576: true; the input reads as it did. -/
def approxMonotoneUptoRow : OpenClaim := { program := "ytndiabpinamjhaa", sum := "0f84a510fe86b8b96f31f3e34e8d4acbd68b32bce12335799dc0e1a02215f2ae", func := "gridmarket/gridmarketlaw05.ApproxMonotone", spec := "approxMonotone", unfollowed := true, recurses := true, apart := false, narrowed := true }
def ApproxMonotoneUptoSaid : Prop := approxMonotoneUptoRow.holds Try.pinned (OpenSpec.upto approxMonotoneSpec)

end Rows
end Go.Proofs.Ytndiabpinamjhaa
