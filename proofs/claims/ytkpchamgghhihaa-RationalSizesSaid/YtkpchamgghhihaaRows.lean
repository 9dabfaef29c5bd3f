/-
  No cell of these rows narrows 'for every input' (looked for: loops, veiled, ifaces, maps, wideKeys, modest, calm, conditions, laid).
  DERIVED. THE GIVEN ROWS OF THIS SEAT. 10 by the template 'for every input the law returns true; each argument reads behind the call as it read before'; 0 by the template 'total and deterministic' (their statements: YtkpchamgghhihaaTotals.lean).
  GIVEN WITH THE SEED: the statements are not yours to turn. If you find one false, say at which input.
  Laid BY PROGRAM, IN A SANDBOX (cutbox-rows.mjs): the forced cells as the released guide's own fill.sh prints them over the translation a0bec49f1b5d9cb0… (all of the seat's roots in one cut). By AI agents, Wed Nov 11 2026. No macro, syntax, notation, axiom, sorry.
-/
import Derived.Test.YtkpchamgghhihaaChecked
import GoSem.Claim
import GoSem.ClaimJoined
import GoSem.ClaimMapViews
import Derived.JoinedTies
import Derived.KernelRfl
namespace Go.Proofs.Ytkpchamgghhihaa
/- THE CELL 'sum', in the pinned program and in every row, IS THE sha256 OF THE DUMP (.gsa) THAT YtkpchamgghhihaaProg.lean LOADS. Nothing in Lean hashes anything: it is a label: what it is worth is what the hold of that sum in a sandbox is worth. -/
noncomputable def Try.pinned : Pinned := { name := "ytkpchamgghhihaa", sum := "a0bec49f1b5d9cb0465f08fd9db66de8c6681f348b6745d78096d28deac13f24", checked := Try.checked }
namespace Rows
def none {H : Type} : Left H := { results := [], args := [] }

/-- 'gridmarketlaw01.NaturalKeeps': WHATEVER THE INPUT: true; the input reads as it did. -/
def naturalKeepsSpec : ChangeSpec := { name := "naturalKeeps", fn := fun _ => fun
  | [d1, d2] => { results := [.lit (.bool true)], args := [d1, d2] }
  | _ => none }
def naturalKeepsRow : OpenClaim := { program := "ytkpchamgghhihaa", sum := "a0bec49f1b5d9cb0465f08fd9db66de8c6681f348b6745d78096d28deac13f24", func := "gridmarket/gridmarketlaw01.NaturalKeeps", spec := "naturalKeeps", unfollowed := true, recurses := true, apart := false }
def NaturalKeepsSaid : Prop := naturalKeepsRow.holds Try.pinned (OpenSpec.ofChange naturalKeepsSpec)

/-- ITS FALSE NEIGHBOUR: 'it returns false'. Refute it at one input. -/
def naturalKeepsWrong : ChangeSpec := { name := "naturalKeeps", fn := fun _ => fun
  | [d1, d2] => { results := [.lit (.bool false)], args := [d1, d2] }
  | _ => none }
def NaturalKeepsWrongFalsely : Prop := naturalKeepsRow.holds Try.pinned (OpenSpec.ofChange naturalKeepsWrong)

/-- 'gridmarketlaw02.IntegerDivisors': WHATEVER THE INPUT: true; the input reads as it did. -/
def integerDivisorsSpec : ChangeSpec := { name := "integerDivisors", fn := fun _ => fun
  | [d1, d2, d3] => { results := [.lit (.bool true)], args := [d1, d2, d3] }
  | _ => none }
def integerDivisorsRow : OpenClaim := { program := "ytkpchamgghhihaa", sum := "a0bec49f1b5d9cb0465f08fd9db66de8c6681f348b6745d78096d28deac13f24", func := "gridmarket/gridmarketlaw02.IntegerDivisors", spec := "integerDivisors", unfollowed := true, recurses := true, apart := false }
def IntegerDivisorsSaid : Prop := integerDivisorsRow.holds Try.pinned (OpenSpec.ofChange integerDivisorsSpec)

/-- ITS FALSE NEIGHBOUR: 'it returns false'. Refute it at one input. -/
def integerDivisorsWrong : ChangeSpec := { name := "integerDivisors", fn := fun _ => fun
  | [d1, d2, d3] => { results := [.lit (.bool false)], args := [d1, d2, d3] }
  | _ => none }
def IntegerDivisorsWrongFalsely : Prop := integerDivisorsRow.holds Try.pinned (OpenSpec.ofChange integerDivisorsWrong)

/-- 'gridmarketlaw02.IntegerExtended': WHATEVER THE INPUT: true; the input reads as it did. -/
def integerExtendedSpec : ChangeSpec := { name := "integerExtended", fn := fun _ => fun
  | [d1, d2] => { results := [.lit (.bool true)], args := [d1, d2] }
  | _ => none }
def integerExtendedRow : OpenClaim := { program := "ytkpchamgghhihaa", sum := "a0bec49f1b5d9cb0465f08fd9db66de8c6681f348b6745d78096d28deac13f24", func := "gridmarket/gridmarketlaw02.IntegerExtended", spec := "integerExtended", unfollowed := true, recurses := true, apart := false }
def IntegerExtendedSaid : Prop := integerExtendedRow.holds Try.pinned (OpenSpec.ofChange integerExtendedSpec)

/-- ITS FALSE NEIGHBOUR: 'it returns false'. Refute it at one input. -/
def integerExtendedWrong : ChangeSpec := { name := "integerExtended", fn := fun _ => fun
  | [d1, d2] => { results := [.lit (.bool false)], args := [d1, d2] }
  | _ => none }
def IntegerExtendedWrongFalsely : Prop := integerExtendedRow.holds Try.pinned (OpenSpec.ofChange integerExtendedWrong)

/-- 'gridmarketlaw02.IntegerKeeps': WHATEVER THE INPUT: true; the input reads as it did. -/
def integerKeepsSpec : ChangeSpec := { name := "integerKeeps", fn := fun _ => fun
  | [d1, d2] => { results := [.lit (.bool true)], args := [d1, d2] }
  | _ => none }
def integerKeepsRow : OpenClaim := { program := "ytkpchamgghhihaa", sum := "a0bec49f1b5d9cb0465f08fd9db66de8c6681f348b6745d78096d28deac13f24", func := "gridmarket/gridmarketlaw02.IntegerKeeps", spec := "integerKeeps", unfollowed := true, recurses := true, apart := false }
def IntegerKeepsSaid : Prop := integerKeepsRow.holds Try.pinned (OpenSpec.ofChange integerKeepsSpec)

/-- ITS FALSE NEIGHBOUR: 'it returns false'. Refute it at one input. -/
def integerKeepsWrong : ChangeSpec := { name := "integerKeeps", fn := fun _ => fun
  | [d1, d2] => { results := [.lit (.bool false)], args := [d1, d2] }
  | _ => none }
def IntegerKeepsWrongFalsely : Prop := integerKeepsRow.holds Try.pinned (OpenSpec.ofChange integerKeepsWrong)

/-- 'gridmarketlaw03.RationalCanonical': WHATEVER THE INPUT: true; the input reads as it did. -/
def rationalCanonicalSpec : ChangeSpec := { name := "rationalCanonical", fn := fun _ => fun
  | [d1, d2] => { results := [.lit (.bool true)], args := [d1, d2] }
  | _ => none }
def rationalCanonicalRow : OpenClaim := { program := "ytkpchamgghhihaa", sum := "a0bec49f1b5d9cb0465f08fd9db66de8c6681f348b6745d78096d28deac13f24", func := "gridmarket/gridmarketlaw03.RationalCanonical", spec := "rationalCanonical", unfollowed := true, recurses := true, apart := false }
def RationalCanonicalSaid : Prop := rationalCanonicalRow.holds Try.pinned (OpenSpec.ofChange rationalCanonicalSpec)

/-- ITS FALSE NEIGHBOUR: 'it returns false'. Refute it at one input. -/
def rationalCanonicalWrong : ChangeSpec := { name := "rationalCanonical", fn := fun _ => fun
  | [d1, d2] => { results := [.lit (.bool false)], args := [d1, d2] }
  | _ => none }
def RationalCanonicalWrongFalsely : Prop := rationalCanonicalRow.holds Try.pinned (OpenSpec.ofChange rationalCanonicalWrong)

/-- 'gridmarketlaw03.RationalSizes': WHATEVER THE INPUT: true; the input reads as it did. -/
def rationalSizesSpec : ChangeSpec := { name := "rationalSizes", fn := fun _ => fun
  | [d1, d2] => { results := [.lit (.bool true)], args := [d1, d2] }
  | _ => none }
def rationalSizesRow : OpenClaim := { program := "ytkpchamgghhihaa", sum := "a0bec49f1b5d9cb0465f08fd9db66de8c6681f348b6745d78096d28deac13f24", func := "gridmarket/gridmarketlaw03.RationalSizes", spec := "rationalSizes", unfollowed := true, recurses := true, apart := false }
def RationalSizesSaid : Prop := rationalSizesRow.holds Try.pinned (OpenSpec.ofChange rationalSizesSpec)

/-- ITS FALSE NEIGHBOUR: 'it returns false'. Refute it at one input. -/
def rationalSizesWrong : ChangeSpec := { name := "rationalSizes", fn := fun _ => fun
  | [d1, d2] => { results := [.lit (.bool false)], args := [d1, d2] }
  | _ => none }
def RationalSizesWrongFalsely : Prop := rationalSizesRow.holds Try.pinned (OpenSpec.ofChange rationalSizesWrong)

/-- 'gridmarketlaw03.RationalField': WHATEVER THE INPUT: true; the input reads as it did. -/
def rationalFieldSpec : ChangeSpec := { name := "rationalField", fn := fun _ => fun
  | [d1, d2, d3] => { results := [.lit (.bool true)], args := [d1, d2, d3] }
  | _ => none }
def rationalFieldRow : OpenClaim := { program := "ytkpchamgghhihaa", sum := "a0bec49f1b5d9cb0465f08fd9db66de8c6681f348b6745d78096d28deac13f24", func := "gridmarket/gridmarketlaw03.RationalField", spec := "rationalField", unfollowed := true, recurses := true, apart := false }
def RationalFieldSaid : Prop := rationalFieldRow.holds Try.pinned (OpenSpec.ofChange rationalFieldSpec)

/-- ITS FALSE NEIGHBOUR: 'it returns false'. Refute it at one input. -/
def rationalFieldWrong : ChangeSpec := { name := "rationalField", fn := fun _ => fun
  | [d1, d2, d3] => { results := [.lit (.bool false)], args := [d1, d2, d3] }
  | _ => none }
def RationalFieldWrongFalsely : Prop := rationalFieldRow.holds Try.pinned (OpenSpec.ofChange rationalFieldWrong)

/-- 'gridmarketlaw03.RationalScaled': WHATEVER THE INPUT: true; the input reads as it did. -/
def rationalScaledSpec : ChangeSpec := { name := "rationalScaled", fn := fun _ => fun
  | [d1, d2, d3] => { results := [.lit (.bool true)], args := [d1, d2, d3] }
  | _ => none }
def rationalScaledRow : OpenClaim := { program := "ytkpchamgghhihaa", sum := "a0bec49f1b5d9cb0465f08fd9db66de8c6681f348b6745d78096d28deac13f24", func := "gridmarket/gridmarketlaw03.RationalScaled", spec := "rationalScaled", unfollowed := true, recurses := true, apart := false }
def RationalScaledSaid : Prop := rationalScaledRow.holds Try.pinned (OpenSpec.ofChange rationalScaledSpec)

/-- ITS FALSE NEIGHBOUR: 'it returns false'. Refute it at one input. -/
def rationalScaledWrong : ChangeSpec := { name := "rationalScaled", fn := fun _ => fun
  | [d1, d2, d3] => { results := [.lit (.bool false)], args := [d1, d2, d3] }
  | _ => none }
def RationalScaledWrongFalsely : Prop := rationalScaledRow.holds Try.pinned (OpenSpec.ofChange rationalScaledWrong)

/-- 'gridmarketlaw03.RationalOrder': WHATEVER THE INPUT: true; the input reads as it did. -/
def rationalOrderSpec : ChangeSpec := { name := "rationalOrder", fn := fun _ => fun
  | [d1, d2, d3] => { results := [.lit (.bool true)], args := [d1, d2, d3] }
  | _ => none }
def rationalOrderRow : OpenClaim := { program := "ytkpchamgghhihaa", sum := "a0bec49f1b5d9cb0465f08fd9db66de8c6681f348b6745d78096d28deac13f24", func := "gridmarket/gridmarketlaw03.RationalOrder", spec := "rationalOrder", unfollowed := true, recurses := true, apart := false }
def RationalOrderSaid : Prop := rationalOrderRow.holds Try.pinned (OpenSpec.ofChange rationalOrderSpec)

/-- ITS FALSE NEIGHBOUR: 'it returns false'. Refute it at one input. -/
def rationalOrderWrong : ChangeSpec := { name := "rationalOrder", fn := fun _ => fun
  | [d1, d2, d3] => { results := [.lit (.bool false)], args := [d1, d2, d3] }
  | _ => none }
def RationalOrderWrongFalsely : Prop := rationalOrderRow.holds Try.pinned (OpenSpec.ofChange rationalOrderWrong)

/-- 'gridmarketlaw03.RationalKeeps': WHATEVER THE INPUT: true; the input reads as it did. -/
def rationalKeepsSpec : ChangeSpec := { name := "rationalKeeps", fn := fun _ => fun
  | [d1, d2] => { results := [.lit (.bool true)], args := [d1, d2] }
  | _ => none }
def rationalKeepsRow : OpenClaim := { program := "ytkpchamgghhihaa", sum := "a0bec49f1b5d9cb0465f08fd9db66de8c6681f348b6745d78096d28deac13f24", func := "gridmarket/gridmarketlaw03.RationalKeeps", spec := "rationalKeeps", unfollowed := true, recurses := true, apart := false }
def RationalKeepsSaid : Prop := rationalKeepsRow.holds Try.pinned (OpenSpec.ofChange rationalKeepsSpec)

/-- ITS FALSE NEIGHBOUR: 'it returns false'. Refute it at one input. -/
def rationalKeepsWrong : ChangeSpec := { name := "rationalKeeps", fn := fun _ => fun
  | [d1, d2] => { results := [.lit (.bool false)], args := [d1, d2] }
  | _ => none }
def RationalKeepsWrongFalsely : Prop := rationalKeepsRow.holds Try.pinned (OpenSpec.ofChange rationalKeepsWrong)

/- THE SECOND FORM. 'bulk': how many values and letters a reading holds, each counted each time it is reached (what is shared counts as often as it is met; a slice's spare places count too). A statement '..UptoSaid' is the law's where the arguments, and the package variables that the reading takes, are together of bulk at most 1048576: NARROWER than '..Said'. Prove '..Said' where nothing that the law and all that it calls make is longer than what came in: it says more and counts as full. Else prove '..UptoSaid'. A law counts once. -/
mutual
def uptoBulk {H : Type} : DataW H → Nat
  | .lit (.string bytes) => bytes.length + 1
  | .lit _ => 1
  | .nil => 1
  | .ptr d => uptoBulk d + 1
  | .slice elems spare => uptoBulkAll elems + uptoBulkAll spare + 1
  | .agg parts => uptoBulkAll parts + 1
  | .iface _ d => uptoBulk d + 1
  | .map entries => uptoBulkEntries entries + 1
  | .held _ => 1
def uptoBulkAll {H : Type} : List (DataW H) → Nat
  | [] => 0
  | d :: r => uptoBulk d + uptoBulkAll r
def uptoBulkEntries {H : Type} : List (Lit × DataW H) → Nat
  | [] => 0
  | x :: r => uptoBulkEntry x + uptoBulkEntries r
def uptoBulkEntry {H : Type} : Lit × DataW H → Nat
  | (.string bytes, d) => bytes.length + uptoBulk d + 1
  | (_, d) => uptoBulk d + 1
 end
def uptoSmall : (H : Type) → List (DataW H) → Bool := fun _ ds => decide (uptoBulkAll ds ≤ 1048576)
def OpenSpec.upto (s : _root_.Go.ChangeSpec) : _root_.Go.OpenSpec := { _root_.Go.OpenSpec.ofChange s with cond := some uptoSmall }

/-- 'gridmarketlaw01.NaturalKeeps', WHERE WHAT IT READS IS OF BULK AT MOST 1048576: true; the input reads as it did. -/
def naturalKeepsUptoRow : OpenClaim := { program := "ytkpchamgghhihaa", sum := "a0bec49f1b5d9cb0465f08fd9db66de8c6681f348b6745d78096d28deac13f24", func := "gridmarket/gridmarketlaw01.NaturalKeeps", spec := "naturalKeeps", unfollowed := true, recurses := true, apart := false, narrowed := true }
def NaturalKeepsUptoSaid : Prop := naturalKeepsUptoRow.holds Try.pinned (OpenSpec.upto naturalKeepsSpec)

/-- 'gridmarketlaw02.IntegerDivisors', WHERE WHAT IT READS IS OF BULK AT MOST 1048576: true; the input reads as it did. -/
def integerDivisorsUptoRow : OpenClaim := { program := "ytkpchamgghhihaa", sum := "a0bec49f1b5d9cb0465f08fd9db66de8c6681f348b6745d78096d28deac13f24", func := "gridmarket/gridmarketlaw02.IntegerDivisors", spec := "integerDivisors", unfollowed := true, recurses := true, apart := false, narrowed := true }
def IntegerDivisorsUptoSaid : Prop := integerDivisorsUptoRow.holds Try.pinned (OpenSpec.upto integerDivisorsSpec)

/-- 'gridmarketlaw02.IntegerExtended', WHERE WHAT IT READS IS OF BULK AT MOST 1048576: true; the input reads as it did. -/
def integerExtendedUptoRow : OpenClaim := { program := "ytkpchamgghhihaa", sum := "a0bec49f1b5d9cb0465f08fd9db66de8c6681f348b6745d78096d28deac13f24", func := "gridmarket/gridmarketlaw02.IntegerExtended", spec := "integerExtended", unfollowed := true, recurses := true, apart := false, narrowed := true }
def IntegerExtendedUptoSaid : Prop := integerExtendedUptoRow.holds Try.pinned (OpenSpec.upto integerExtendedSpec)

/-- 'gridmarketlaw02.IntegerKeeps', WHERE WHAT IT READS IS OF BULK AT MOST 1048576: true; the input reads as it did. -/
def integerKeepsUptoRow : OpenClaim := { program := "ytkpchamgghhihaa", sum := "a0bec49f1b5d9cb0465f08fd9db66de8c6681f348b6745d78096d28deac13f24", func := "gridmarket/gridmarketlaw02.IntegerKeeps", spec := "integerKeeps", unfollowed := true, recurses := true, apart := false, narrowed := true }
def IntegerKeepsUptoSaid : Prop := integerKeepsUptoRow.holds Try.pinned (OpenSpec.upto integerKeepsSpec)

/-- 'gridmarketlaw03.RationalCanonical', WHERE WHAT IT READS IS OF BULK AT MOST 1048576: true; the input reads as it did. -/
def rationalCanonicalUptoRow : OpenClaim := { program := "ytkpchamgghhihaa", sum := "a0bec49f1b5d9cb0465f08fd9db66de8c6681f348b6745d78096d28deac13f24", func := "gridmarket/gridmarketlaw03.RationalCanonical", spec := "rationalCanonical", unfollowed := true, recurses := true, apart := false, narrowed := true }
def RationalCanonicalUptoSaid : Prop := rationalCanonicalUptoRow.holds Try.pinned (OpenSpec.upto rationalCanonicalSpec)

/-- 'gridmarketlaw03.RationalSizes', WHERE WHAT IT READS IS OF BULK AT MOST 1048576: true; the input reads as it did. -/
def rationalSizesUptoRow : OpenClaim := { program := "ytkpchamgghhihaa", sum := "a0bec49f1b5d9cb0465f08fd9db66de8c6681f348b6745d78096d28deac13f24", func := "gridmarket/gridmarketlaw03.RationalSizes", spec := "rationalSizes", unfollowed := true, recurses := true, apart := false, narrowed := true }
def RationalSizesUptoSaid : Prop := rationalSizesUptoRow.holds Try.pinned (OpenSpec.upto rationalSizesSpec)

/-- 'gridmarketlaw03.RationalField', WHERE WHAT IT READS IS OF BULK AT MOST 1048576: true; the input reads as it did. -/
def rationalFieldUptoRow : OpenClaim := { program := "ytkpchamgghhihaa", sum := "a0bec49f1b5d9cb0465f08fd9db66de8c6681f348b6745d78096d28deac13f24", func := "gridmarket/gridmarketlaw03.RationalField", spec := "rationalField", unfollowed := true, recurses := true, apart := false, narrowed := true }
def RationalFieldUptoSaid : Prop := rationalFieldUptoRow.holds Try.pinned (OpenSpec.upto rationalFieldSpec)

/-- 'gridmarketlaw03.RationalScaled', WHERE WHAT IT READS IS OF BULK AT MOST 1048576: true; the input reads as it did. -/
def rationalScaledUptoRow : OpenClaim := { program := "ytkpchamgghhihaa", sum := "a0bec49f1b5d9cb0465f08fd9db66de8c6681f348b6745d78096d28deac13f24", func := "gridmarket/gridmarketlaw03.RationalScaled", spec := "rationalScaled", unfollowed := true, recurses := true, apart := false, narrowed := true }
def RationalScaledUptoSaid : Prop := rationalScaledUptoRow.holds Try.pinned (OpenSpec.upto rationalScaledSpec)

/-- 'gridmarketlaw03.RationalOrder', WHERE WHAT IT READS IS OF BULK AT MOST 1048576: true; the input reads as it did. -/
def rationalOrderUptoRow : OpenClaim := { program := "ytkpchamgghhihaa", sum := "a0bec49f1b5d9cb0465f08fd9db66de8c6681f348b6745d78096d28deac13f24", func := "gridmarket/gridmarketlaw03.RationalOrder", spec := "rationalOrder", unfollowed := true, recurses := true, apart := false, narrowed := true }
def RationalOrderUptoSaid : Prop := rationalOrderUptoRow.holds Try.pinned (OpenSpec.upto rationalOrderSpec)

/-- 'gridmarketlaw03.RationalKeeps', WHERE WHAT IT READS IS OF BULK AT MOST 1048576: true; the input reads as it did. -/
def rationalKeepsUptoRow : OpenClaim := { program := "ytkpchamgghhihaa", sum := "a0bec49f1b5d9cb0465f08fd9db66de8c6681f348b6745d78096d28deac13f24", func := "gridmarket/gridmarketlaw03.RationalKeeps", spec := "rationalKeeps", unfollowed := true, recurses := true, apart := false, narrowed := true }
def RationalKeepsUptoSaid : Prop := rationalKeepsUptoRow.holds Try.pinned (OpenSpec.upto rationalKeepsSpec)

end Rows
end Go.Proofs.Ytkpchamgghhihaa
