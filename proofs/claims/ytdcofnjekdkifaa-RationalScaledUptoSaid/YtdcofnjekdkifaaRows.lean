/-
  No cell of these rows narrows 'for every input' (looked for: loops, veiled, ifaces, maps, wideKeys, modest, calm, conditions, laid).
  DERIVED. THE GIVEN ROWS OF THIS SEAT. 5 by the template 'for every input the law returns true; each argument reads behind the call as it read before'; 0 by the template 'total and deterministic' (their statements: YtdcofnjekdkifaaTotals.lean).
  GIVEN WITH THE SEED: the statements are not yours to turn. If you find one false, say at which input.
  Laid BY PROGRAM, IN A SANDBOX (cutbox-rows.mjs): the forced cells as the released guide's own fill.sh prints them over the translation 1023f058ebb173cd… (all of the seat's roots in one cut). By AI agents, Wed Nov 11 2026. No macro, syntax, notation, axiom, sorry.
-/
import Derived.Test.YtdcofnjekdkifaaChecked
import GoSem.Claim
import GoSem.ClaimJoined
import GoSem.ClaimMapViews
import Derived.JoinedTies
import Derived.KernelRfl
namespace Go.Proofs.Ytdcofnjekdkifaa
/- THE CELL 'sum', in the pinned program and in every row, IS THE sha256 OF THE DUMP (.gsa) THAT YtdcofnjekdkifaaProg.lean LOADS. Nothing in Lean hashes anything: it is a label: what it is worth is what the hold of that sum in a sandbox is worth. -/
noncomputable def Try.pinned : Pinned := { name := "ytdcofnjekdkifaa", sum := "1023f058ebb173cd8975fc6ae0ef403d8e2b9042b19b89b80979022b0a79cab9", checked := Try.checked }
namespace Rows
def none {H : Type} : Left H := { results := [], args := [] }

/-- 'gridmarketlaw03.RationalField': WHATEVER THE INPUT: true; the input reads as it did. -/
def rationalFieldSpec : ChangeSpec := { name := "rationalField", fn := fun _ => fun
  | [d1, d2, d3] => { results := [.lit (.bool true)], args := [d1, d2, d3] }
  | _ => none }
def rationalFieldRow : OpenClaim := { program := "ytdcofnjekdkifaa", sum := "1023f058ebb173cd8975fc6ae0ef403d8e2b9042b19b89b80979022b0a79cab9", func := "gridmarket/gridmarketlaw03.RationalField", spec := "rationalField", unfollowed := true, recurses := true, apart := false }
def RationalFieldSaid : Prop := rationalFieldRow.holds Try.pinned (OpenSpec.ofChange rationalFieldSpec)

/-- ITS FALSE NEIGHBOUR: 'it returns false'. Refute it at one input. -/
def rationalFieldWrong : ChangeSpec := { name := "rationalField", fn := fun _ => fun
  | [d1, d2, d3] => { results := [.lit (.bool false)], args := [d1, d2, d3] }
  | _ => none }
def RationalFieldWrongFalsely : Prop := rationalFieldRow.holds Try.pinned (OpenSpec.ofChange rationalFieldWrong)

/-- 'gridmarketlaw03.RationalArithmetic': WHATEVER THE INPUT: true; the input reads as it did. -/
def rationalArithmeticSpec : ChangeSpec := { name := "rationalArithmetic", fn := fun _ => fun
  | [d1, d2] => { results := [.lit (.bool true)], args := [d1, d2] }
  | _ => none }
def rationalArithmeticRow : OpenClaim := { program := "ytdcofnjekdkifaa", sum := "1023f058ebb173cd8975fc6ae0ef403d8e2b9042b19b89b80979022b0a79cab9", func := "gridmarket/gridmarketlaw03.RationalArithmetic", spec := "rationalArithmetic", unfollowed := true, recurses := true, apart := false }
def RationalArithmeticSaid : Prop := rationalArithmeticRow.holds Try.pinned (OpenSpec.ofChange rationalArithmeticSpec)

/-- ITS FALSE NEIGHBOUR: 'it returns false'. Refute it at one input. -/
def rationalArithmeticWrong : ChangeSpec := { name := "rationalArithmetic", fn := fun _ => fun
  | [d1, d2] => { results := [.lit (.bool false)], args := [d1, d2] }
  | _ => none }
def RationalArithmeticWrongFalsely : Prop := rationalArithmeticRow.holds Try.pinned (OpenSpec.ofChange rationalArithmeticWrong)

/-- 'gridmarketlaw03.RationalScaled': WHATEVER THE INPUT: true; the input reads as it did. -/
def rationalScaledSpec : ChangeSpec := { name := "rationalScaled", fn := fun _ => fun
  | [d1, d2, d3] => { results := [.lit (.bool true)], args := [d1, d2, d3] }
  | _ => none }
def rationalScaledRow : OpenClaim := { program := "ytdcofnjekdkifaa", sum := "1023f058ebb173cd8975fc6ae0ef403d8e2b9042b19b89b80979022b0a79cab9", func := "gridmarket/gridmarketlaw03.RationalScaled", spec := "rationalScaled", unfollowed := true, recurses := true, apart := false }
def RationalScaledSaid : Prop := rationalScaledRow.holds Try.pinned (OpenSpec.ofChange rationalScaledSpec)

/-- ITS FALSE NEIGHBOUR: 'it returns false'. Refute it at one input. -/
def rationalScaledWrong : ChangeSpec := { name := "rationalScaled", fn := fun _ => fun
  | [d1, d2, d3] => { results := [.lit (.bool false)], args := [d1, d2, d3] }
  | _ => none }
def RationalScaledWrongFalsely : Prop := rationalScaledRow.holds Try.pinned (OpenSpec.ofChange rationalScaledWrong)

/-- 'gridmarketlaw03.RationalOrder': WHATEVER THE INPUT: true; the input reads as it did. -/
def rationalOrderSpec : ChangeSpec := { name := "rationalOrder", fn := fun _ => fun
  | [d1, d2, d3] => { results := [.lit (.bool true)], args := [d1, d2, d3] }
  | _ => none }
def rationalOrderRow : OpenClaim := { program := "ytdcofnjekdkifaa", sum := "1023f058ebb173cd8975fc6ae0ef403d8e2b9042b19b89b80979022b0a79cab9", func := "gridmarket/gridmarketlaw03.RationalOrder", spec := "rationalOrder", unfollowed := true, recurses := true, apart := false }
def RationalOrderSaid : Prop := rationalOrderRow.holds Try.pinned (OpenSpec.ofChange rationalOrderSpec)

/-- ITS FALSE NEIGHBOUR: 'it returns false'. Refute it at one input. -/
def rationalOrderWrong : ChangeSpec := { name := "rationalOrder", fn := fun _ => fun
  | [d1, d2, d3] => { results := [.lit (.bool false)], args := [d1, d2, d3] }
  | _ => none }
def RationalOrderWrongFalsely : Prop := rationalOrderRow.holds Try.pinned (OpenSpec.ofChange rationalOrderWrong)

/-- 'gridmarketlaw03.RationalKeeps': WHATEVER THE INPUT: true; the input reads as it did. -/
def rationalKeepsSpec : ChangeSpec := { name := "rationalKeeps", fn := fun _ => fun
  | [d1, d2] => { results := [.lit (.bool true)], args := [d1, d2] }
  | _ => none }
def rationalKeepsRow : OpenClaim := { program := "ytdcofnjekdkifaa", sum := "1023f058ebb173cd8975fc6ae0ef403d8e2b9042b19b89b80979022b0a79cab9", func := "gridmarket/gridmarketlaw03.RationalKeeps", spec := "rationalKeeps", unfollowed := true, recurses := true, apart := false }
def RationalKeepsSaid : Prop := rationalKeepsRow.holds Try.pinned (OpenSpec.ofChange rationalKeepsSpec)

/-- ITS FALSE NEIGHBOUR: 'it returns false'. Refute it at one input. -/
def rationalKeepsWrong : ChangeSpec := { name := "rationalKeeps", fn := fun _ => fun
  | [d1, d2] => { results := [.lit (.bool false)], args := [d1, d2] }
  | _ => none }
def RationalKeepsWrongFalsely : Prop := rationalKeepsRow.holds Try.pinned (OpenSpec.ofChange rationalKeepsWrong)

/- THE SECOND FORM. 'bulk': how many values and letters a reading holds, each counted each time it is reached (what is shared counts as often as it is met; a slice's spare places count too). A statement '..UptoSaid' is the law's where the arguments, and the package variables that the reading takes, are together of bulk at most 1048576: NARROWER than '..Said'. Prove '..Said' where nothing that the law and all that it calls make is longer than what came in: it says more and counts as full. Else prove '..UptoSaid'. A law counts once. -/
mutual
def uptoBulk {H : Type} : DataW H → Nat
  | .lit (.string bytes) => bytes.length + 1
  | .lit _ => 1
  | .nil => 1
  | .ptr d => uptoBulk d + 1
  | .slice elems spare => uptoBulkAll elems + uptoBulkAll spare + 1
  | .agg parts => uptoBulkAll parts + 1
  | .iface _ d => uptoBulk d + 1
  | .map entries => uptoBulkEntries entries + 1
  | .held _ => 1
def uptoBulkAll {H : Type} : List (DataW H) → Nat
  | [] => 0
  | d :: r => uptoBulk d + uptoBulkAll r
def uptoBulkEntries {H : Type} : List (Lit × DataW H) → Nat
  | [] => 0
  | x :: r => uptoBulkEntry x + uptoBulkEntries r
def uptoBulkEntry {H : Type} : Lit × DataW H → Nat
  | (.string bytes, d) => bytes.length + uptoBulk d + 1
  | (_, d) => uptoBulk d + 1
 end
def uptoSmall : (H : Type) → List (DataW H) → Bool := fun _ ds => decide (uptoBulkAll ds ≤ 1048576)
def OpenSpec.upto (s : _root_.Go.ChangeSpec) : _root_.Go.OpenSpec := { _root_.Go.OpenSpec.ofChange s with cond := some uptoSmall }

/-- 'gridmarketlaw03.RationalField', WHERE WHAT IT READS IS OF BULK AT MOST 1048576: true; the input reads as it did. -/
def rationalFieldUptoRow : OpenClaim := { program := "ytdcofnjekdkifaa", sum := "1023f058ebb173cd8975fc6ae0ef403d8e2b9042b19b89b80979022b0a79cab9", func := "gridmarket/gridmarketlaw03.RationalField", spec := "rationalField", unfollowed := true, recurses := true, apart := false, narrowed := true }
def RationalFieldUptoSaid : Prop := rationalFieldUptoRow.holds Try.pinned (OpenSpec.upto rationalFieldSpec)

/-- 'gridmarketlaw03.RationalArithmetic', WHERE WHAT IT READS IS OF BULK AT MOST 1048576: true; the input reads as it did. -/
def rationalArithmeticUptoRow : OpenClaim := { program := "ytdcofnjekdkifaa", sum := "1023f058ebb173cd8975fc6ae0ef403d8e2b9042b19b89b80979022b0a79cab9", func := "gridmarket/gridmarketlaw03.RationalArithmetic", spec := "rationalArithmetic", unfollowed := true, recurses := true, apart := false, narrowed := true }
def RationalArithmeticUptoSaid : Prop := rationalArithmeticUptoRow.holds Try.pinned (OpenSpec.upto rationalArithmeticSpec)

/-- 'gridmarketlaw03.RationalScaled', WHERE WHAT IT READS IS OF BULK AT MOST 1048576: true; the input reads as it did. -/
def rationalScaledUptoRow : OpenClaim := { program := "ytdcofnjekdkifaa", sum := "1023f058ebb173cd8975fc6ae0ef403d8e2b9042b19b89b80979022b0a79cab9", func := "gridmarket/gridmarketlaw03.RationalScaled", spec := "rationalScaled", unfollowed := true, recurses := true, apart := false, narrowed := true }
def RationalScaledUptoSaid : Prop := rationalScaledUptoRow.holds Try.pinned (OpenSpec.upto rationalScaledSpec)

/-- 'gridmarketlaw03.RationalOrder', WHERE WHAT IT READS IS OF BULK AT MOST 1048576: true; the input reads as it did. -/
def rationalOrderUptoRow : OpenClaim := { program := "ytdcofnjekdkifaa", sum := "1023f058ebb173cd8975fc6ae0ef403d8e2b9042b19b89b80979022b0a79cab9", func := "gridmarket/gridmarketlaw03.RationalOrder", spec := "rationalOrder", unfollowed := true, recurses := true, apart := false, narrowed := true }
def RationalOrderUptoSaid : Prop := rationalOrderUptoRow.holds Try.pinned (OpenSpec.upto rationalOrderSpec)

/-- 'gridmarketlaw03.RationalKeeps', WHERE WHAT IT READS IS OF BULK AT MOST 1048576: true; the input reads as it did. -/
def rationalKeepsUptoRow : OpenClaim := { program := "ytdcofnjekdkifaa", sum := "1023f058ebb173cd8975fc6ae0ef403d8e2b9042b19b89b80979022b0a79cab9", func := "gridmarket/gridmarketlaw03.RationalKeeps", spec := "rationalKeeps", unfollowed := true, recurses := true, apart := false, narrowed := true }
def RationalKeepsUptoSaid : Prop := rationalKeepsUptoRow.holds Try.pinned (OpenSpec.upto rationalKeepsSpec)

end Rows
end Go.Proofs.Ytdcofnjekdkifaa
