/-
  No cell of these rows narrows 'for every input' (looked for: loops, veiled, ifaces, maps, wideKeys, modest, calm, conditions, laid).
  DERIVED. THE GIVEN ROWS OF THIS SEAT. 14 by the template 'for every input the law returns true; each argument reads behind the call as it read before'; 0 by the template 'total and deterministic' (their statements: YtfgkecffpkdjcaaGreatTotals.lean).
  GIVEN WITH THE SEED: the statements are not yours to turn. If you find one false, say at which input.
  Laid BY PROGRAM, IN A SANDBOX (cutbox-rows.mjs): the forced cells as the released guide's own fill.sh prints them over the translation 9d92bb327e77ae73… (all of the seat's roots in one cut). By AI agents, Wed Nov 11 2026. No macro, syntax, notation, axiom, sorry.
-/
import Derived.Test.YtfgkecffpkdjcaaGreatChecked
import GoSem.Claim
import GoSem.ClaimJoined
import GoSem.ClaimMapViews
import Derived.JoinedTies
import Derived.KernelRfl
namespace Go.Proofs.YtfgkecffpkdjcaaGreat
/- THE CELL 'sum', in the pinned program and in every row, IS THE sha256 OF THE DUMP (.gsa) THAT YtfgkecffpkdjcaaGreatProg.lean LOADS. Nothing in Lean hashes anything: it is a label: what it is worth is what the hold of that sum in a sandbox is worth. -/
noncomputable def Tryz.pinned : Pinned := { name := "ytfgkecffpkdjcaagreat", sum := "9d92bb327e77ae738ec200ba3258b88d741e3d79087699a3cea59849b7641083", checked := Tryz.checked }
namespace Rows
def none {H : Type} : Left H := { results := [], args := [] }

/-- 'gridmarketlaw11.LinprogConvex': WHATEVER THE INPUT: true; the input reads as it did. -/
def linprogConvexSpec : ChangeSpec := { name := "linprogConvex", fn := fun _ => fun
  | [d1, d2, d3, d4] => { results := [.lit (.bool true)], args := [d1, d2, d3, d4] }
  | _ => none }
def linprogConvexRow : OpenClaim := { program := "ytfgkecffpkdjcaagreat", sum := "9d92bb327e77ae738ec200ba3258b88d741e3d79087699a3cea59849b7641083", func := "gridmarket/gridmarketlaw11.LinprogConvex", spec := "linprogConvex", unfollowed := true, recurses := true, apart := false }
def LinprogConvexSaid : Prop := linprogConvexRow.holds Tryz.pinned (OpenSpec.ofChange linprogConvexSpec)

/-- ITS FALSE NEIGHBOUR: 'it returns false'. Refute it at one input. -/
def linprogConvexWrong : ChangeSpec := { name := "linprogConvex", fn := fun _ => fun
  | [d1, d2, d3, d4] => { results := [.lit (.bool false)], args := [d1, d2, d3, d4] }
  | _ => none }
def LinprogConvexWrongFalsely : Prop := linprogConvexRow.holds Tryz.pinned (OpenSpec.ofChange linprogConvexWrong)

/-- 'gridmarketlaw11.LinprogWeakDuality': WHATEVER THE INPUT: true; the input reads as it did. -/
def linprogWeakDualitySpec : ChangeSpec := { name := "linprogWeakDuality", fn := fun _ => fun
  | [d1, d2, d3, d4, d5] => { results := [.lit (.bool true)], args := [d1, d2, d3, d4, d5] }
  | _ => none }
def linprogWeakDualityRow : OpenClaim := { program := "ytfgkecffpkdjcaagreat", sum := "9d92bb327e77ae738ec200ba3258b88d741e3d79087699a3cea59849b7641083", func := "gridmarket/gridmarketlaw11.LinprogWeakDuality", spec := "linprogWeakDuality", unfollowed := true, recurses := true, apart := false }
def LinprogWeakDualitySaid : Prop := linprogWeakDualityRow.holds Tryz.pinned (OpenSpec.ofChange linprogWeakDualitySpec)

/-- ITS FALSE NEIGHBOUR: 'it returns false'. Refute it at one input. -/
def linprogWeakDualityWrong : ChangeSpec := { name := "linprogWeakDuality", fn := fun _ => fun
  | [d1, d2, d3, d4, d5] => { results := [.lit (.bool false)], args := [d1, d2, d3, d4, d5] }
  | _ => none }
def LinprogWeakDualityWrongFalsely : Prop := linprogWeakDualityRow.holds Tryz.pinned (OpenSpec.ofChange linprogWeakDualityWrong)

/-- 'gridmarketlaw11.LinprogMultipliers': WHATEVER THE INPUT: true; the input reads as it did. -/
def linprogMultipliersSpec : ChangeSpec := { name := "linprogMultipliers", fn := fun _ => fun
  | [d1, d2, d3, d4] => { results := [.lit (.bool true)], args := [d1, d2, d3, d4] }
  | _ => none }
def linprogMultipliersRow : OpenClaim := { program := "ytfgkecffpkdjcaagreat", sum := "9d92bb327e77ae738ec200ba3258b88d741e3d79087699a3cea59849b7641083", func := "gridmarket/gridmarketlaw11.LinprogMultipliers", spec := "linprogMultipliers", unfollowed := true, recurses := true, apart := false }
def LinprogMultipliersSaid : Prop := linprogMultipliersRow.holds Tryz.pinned (OpenSpec.ofChange linprogMultipliersSpec)

/-- ITS FALSE NEIGHBOUR: 'it returns false'. Refute it at one input. -/
def linprogMultipliersWrong : ChangeSpec := { name := "linprogMultipliers", fn := fun _ => fun
  | [d1, d2, d3, d4] => { results := [.lit (.bool false)], args := [d1, d2, d3, d4] }
  | _ => none }
def LinprogMultipliersWrongFalsely : Prop := linprogMultipliersRow.holds Tryz.pinned (OpenSpec.ofChange linprogMultipliersWrong)

/-- 'gridmarketlaw11.LinprogPoints': WHATEVER THE INPUT: true; the input reads as it did. -/
def linprogPointsSpec : ChangeSpec := { name := "linprogPoints", fn := fun _ => fun
  | [d1, d2, d3, d4] => { results := [.lit (.bool true)], args := [d1, d2, d3, d4] }
  | _ => none }
def linprogPointsRow : OpenClaim := { program := "ytfgkecffpkdjcaagreat", sum := "9d92bb327e77ae738ec200ba3258b88d741e3d79087699a3cea59849b7641083", func := "gridmarket/gridmarketlaw11.LinprogPoints", spec := "linprogPoints", unfollowed := true, recurses := true, apart := false }
def LinprogPointsSaid : Prop := linprogPointsRow.holds Tryz.pinned (OpenSpec.ofChange linprogPointsSpec)

/-- ITS FALSE NEIGHBOUR: 'it returns false'. Refute it at one input. -/
def linprogPointsWrong : ChangeSpec := { name := "linprogPoints", fn := fun _ => fun
  | [d1, d2, d3, d4] => { results := [.lit (.bool false)], args := [d1, d2, d3, d4] }
  | _ => none }
def LinprogPointsWrongFalsely : Prop := linprogPointsRow.holds Tryz.pinned (OpenSpec.ofChange linprogPointsWrong)

/-- 'gridmarketlaw11.LinprogMoreRows': WHATEVER THE INPUT: true; the input reads as it did. -/
def linprogMoreRowsSpec : ChangeSpec := { name := "linprogMoreRows", fn := fun _ => fun
  | [d1, d2, d3] => { results := [.lit (.bool true)], args := [d1, d2, d3] }
  | _ => none }
def linprogMoreRowsRow : OpenClaim := { program := "ytfgkecffpkdjcaagreat", sum := "9d92bb327e77ae738ec200ba3258b88d741e3d79087699a3cea59849b7641083", func := "gridmarket/gridmarketlaw11.LinprogMoreRows", spec := "linprogMoreRows", unfollowed := true, recurses := true, apart := false }
def LinprogMoreRowsSaid : Prop := linprogMoreRowsRow.holds Tryz.pinned (OpenSpec.ofChange linprogMoreRowsSpec)

/-- ITS FALSE NEIGHBOUR: 'it returns false'. Refute it at one input. -/
def linprogMoreRowsWrong : ChangeSpec := { name := "linprogMoreRows", fn := fun _ => fun
  | [d1, d2, d3] => { results := [.lit (.bool false)], args := [d1, d2, d3] }
  | _ => none }
def LinprogMoreRowsWrongFalsely : Prop := linprogMoreRowsRow.holds Tryz.pinned (OpenSpec.ofChange linprogMoreRowsWrong)

/-- 'gridmarketlaw11.LinprogChanges': WHATEVER THE INPUT: true; the input reads as it did. -/
def linprogChangesSpec : ChangeSpec := { name := "linprogChanges", fn := fun _ => fun
  | [d1, d2, d3] => { results := [.lit (.bool true)], args := [d1, d2, d3] }
  | _ => none }
def linprogChangesRow : OpenClaim := { program := "ytfgkecffpkdjcaagreat", sum := "9d92bb327e77ae738ec200ba3258b88d741e3d79087699a3cea59849b7641083", func := "gridmarket/gridmarketlaw11.LinprogChanges", spec := "linprogChanges", unfollowed := true, recurses := true, apart := false }
def LinprogChangesSaid : Prop := linprogChangesRow.holds Tryz.pinned (OpenSpec.ofChange linprogChangesSpec)

/-- ITS FALSE NEIGHBOUR: 'it returns false'. Refute it at one input. -/
def linprogChangesWrong : ChangeSpec := { name := "linprogChanges", fn := fun _ => fun
  | [d1, d2, d3] => { results := [.lit (.bool false)], args := [d1, d2, d3] }
  | _ => none }
def LinprogChangesWrongFalsely : Prop := linprogChangesRow.holds Tryz.pinned (OpenSpec.ofChange linprogChangesWrong)

/-- 'gridmarketlaw12.CertifyOptimal': WHATEVER THE INPUT: true; the input reads as it did. -/
def certifyOptimalSpec : ChangeSpec := { name := "certifyOptimal", fn := fun _ => fun
  | [d1, d2, d3, d4, d5] => { results := [.lit (.bool true)], args := [d1, d2, d3, d4, d5] }
  | _ => none }
def certifyOptimalRow : OpenClaim := { program := "ytfgkecffpkdjcaagreat", sum := "9d92bb327e77ae738ec200ba3258b88d741e3d79087699a3cea59849b7641083", func := "gridmarket/gridmarketlaw12.CertifyOptimal", spec := "certifyOptimal", unfollowed := true, recurses := true, apart := false }
def CertifyOptimalSaid : Prop := certifyOptimalRow.holds Tryz.pinned (OpenSpec.ofChange certifyOptimalSpec)

/-- ITS FALSE NEIGHBOUR: 'it returns false'. Refute it at one input. -/
def certifyOptimalWrong : ChangeSpec := { name := "certifyOptimal", fn := fun _ => fun
  | [d1, d2, d3, d4, d5] => { results := [.lit (.bool false)], args := [d1, d2, d3, d4, d5] }
  | _ => none }
def CertifyOptimalWrongFalsely : Prop := certifyOptimalRow.holds Tryz.pinned (OpenSpec.ofChange certifyOptimalWrong)

/-- 'gridmarketlaw12.CertifyShortens': WHATEVER THE INPUT: true; the input reads as it did. -/
def certifyShortensSpec : ChangeSpec := { name := "certifyShortens", fn := fun _ => fun
  | [d1, d2, d3, d4, d5, d6] => { results := [.lit (.bool true)], args := [d1, d2, d3, d4, d5, d6] }
  | _ => none }
def certifyShortensRow : OpenClaim := { program := "ytfgkecffpkdjcaagreat", sum := "9d92bb327e77ae738ec200ba3258b88d741e3d79087699a3cea59849b7641083", func := "gridmarket/gridmarketlaw12.CertifyShortens", spec := "certifyShortens", unfollowed := true, recurses := true, apart := false }
def CertifyShortensSaid : Prop := certifyShortensRow.holds Tryz.pinned (OpenSpec.ofChange certifyShortensSpec)

/-- ITS FALSE NEIGHBOUR: 'it returns false'. Refute it at one input. -/
def certifyShortensWrong : ChangeSpec := { name := "certifyShortens", fn := fun _ => fun
  | [d1, d2, d3, d4, d5, d6] => { results := [.lit (.bool false)], args := [d1, d2, d3, d4, d5, d6] }
  | _ => none }
def CertifyShortensWrongFalsely : Prop := certifyShortensRow.holds Tryz.pinned (OpenSpec.ofChange certifyShortensWrong)

/-- 'gridmarketlaw12.CertifyKeepsBound': WHATEVER THE INPUT: true; the input reads as it did. -/
def certifyKeepsBoundSpec : ChangeSpec := { name := "certifyKeepsBound", fn := fun _ => fun
  | [d1, d2, d3, d4] => { results := [.lit (.bool true)], args := [d1, d2, d3, d4] }
  | _ => none }
def certifyKeepsBoundRow : OpenClaim := { program := "ytfgkecffpkdjcaagreat", sum := "9d92bb327e77ae738ec200ba3258b88d741e3d79087699a3cea59849b7641083", func := "gridmarket/gridmarketlaw12.CertifyKeepsBound", spec := "certifyKeepsBound", unfollowed := true, recurses := true, apart := false }
def CertifyKeepsBoundSaid : Prop := certifyKeepsBoundRow.holds Tryz.pinned (OpenSpec.ofChange certifyKeepsBoundSpec)

/-- ITS FALSE NEIGHBOUR: 'it returns false'. Refute it at one input. -/
def certifyKeepsBoundWrong : ChangeSpec := { name := "certifyKeepsBound", fn := fun _ => fun
  | [d1, d2, d3, d4] => { results := [.lit (.bool false)], args := [d1, d2, d3, d4] }
  | _ => none }
def CertifyKeepsBoundWrongFalsely : Prop := certifyKeepsBoundRow.holds Tryz.pinned (OpenSpec.ofChange certifyKeepsBoundWrong)

/-- 'gridmarketlaw12.CertifyInfeasible': WHATEVER THE INPUT: true; the input reads as it did. -/
def certifyInfeasibleSpec : ChangeSpec := { name := "certifyInfeasible", fn := fun _ => fun
  | [d1, d2, d3, d4, d5] => { results := [.lit (.bool true)], args := [d1, d2, d3, d4, d5] }
  | _ => none }
def certifyInfeasibleRow : OpenClaim := { program := "ytfgkecffpkdjcaagreat", sum := "9d92bb327e77ae738ec200ba3258b88d741e3d79087699a3cea59849b7641083", func := "gridmarket/gridmarketlaw12.CertifyInfeasible", spec := "certifyInfeasible", unfollowed := true, recurses := true, apart := false }
def CertifyInfeasibleSaid : Prop := certifyInfeasibleRow.holds Tryz.pinned (OpenSpec.ofChange certifyInfeasibleSpec)

/-- ITS FALSE NEIGHBOUR: 'it returns false'. Refute it at one input. -/
def certifyInfeasibleWrong : ChangeSpec := { name := "certifyInfeasible", fn := fun _ => fun
  | [d1, d2, d3, d4, d5] => { results := [.lit (.bool false)], args := [d1, d2, d3, d4, d5] }
  | _ => none }
def CertifyInfeasibleWrongFalsely : Prop := certifyInfeasibleRow.holds Tryz.pinned (OpenSpec.ofChange certifyInfeasibleWrong)

/-- 'gridmarketlaw12.CertifyUnbounded': WHATEVER THE INPUT: true; the input reads as it did. -/
def certifyUnboundedSpec : ChangeSpec := { name := "certifyUnbounded", fn := fun _ => fun
  | [d1, d2, d3, d4, d5] => { results := [.lit (.bool true)], args := [d1, d2, d3, d4, d5] }
  | _ => none }
def certifyUnboundedRow : OpenClaim := { program := "ytfgkecffpkdjcaagreat", sum := "9d92bb327e77ae738ec200ba3258b88d741e3d79087699a3cea59849b7641083", func := "gridmarket/gridmarketlaw12.CertifyUnbounded", spec := "certifyUnbounded", unfollowed := true, recurses := true, apart := false }
def CertifyUnboundedSaid : Prop := certifyUnboundedRow.holds Tryz.pinned (OpenSpec.ofChange certifyUnboundedSpec)

/-- ITS FALSE NEIGHBOUR: 'it returns false'. Refute it at one input. -/
def certifyUnboundedWrong : ChangeSpec := { name := "certifyUnbounded", fn := fun _ => fun
  | [d1, d2, d3, d4, d5] => { results := [.lit (.bool false)], args := [d1, d2, d3, d4, d5] }
  | _ => none }
def CertifyUnboundedWrongFalsely : Prop := certifyUnboundedRow.holds Tryz.pinned (OpenSpec.ofChange certifyUnboundedWrong)

/-- 'gridmarketlaw12.CertifyExact': WHATEVER THE INPUT: true; the input reads as it did. -/
def certifyExactSpec : ChangeSpec := { name := "certifyExact", fn := fun _ => fun
  | [d1, d2, d3, d4, d5, d6, d7, d8] => { results := [.lit (.bool true)], args := [d1, d2, d3, d4, d5, d6, d7, d8] }
  | _ => none }
def certifyExactRow : OpenClaim := { program := "ytfgkecffpkdjcaagreat", sum := "9d92bb327e77ae738ec200ba3258b88d741e3d79087699a3cea59849b7641083", func := "gridmarket/gridmarketlaw12.CertifyExact", spec := "certifyExact", unfollowed := true, recurses := true, apart := false }
def CertifyExactSaid : Prop := certifyExactRow.holds Tryz.pinned (OpenSpec.ofChange certifyExactSpec)

/-- ITS FALSE NEIGHBOUR: 'it returns false'. Refute it at one input. -/
def certifyExactWrong : ChangeSpec := { name := "certifyExact", fn := fun _ => fun
  | [d1, d2, d3, d4, d5, d6, d7, d8] => { results := [.lit (.bool false)], args := [d1, d2, d3, d4, d5, d6, d7, d8] }
  | _ => none }
def CertifyExactWrongFalsely : Prop := certifyExactRow.holds Tryz.pinned (OpenSpec.ofChange certifyExactWrong)

/-- 'gridmarketlaw12.CertifyOneStatus': WHATEVER THE INPUT: true; the input reads as it did. -/
def certifyOneStatusSpec : ChangeSpec := { name := "certifyOneStatus", fn := fun _ => fun
  | [d1, d2, d3] => { results := [.lit (.bool true)], args := [d1, d2, d3] }
  | _ => none }
def certifyOneStatusRow : OpenClaim := { program := "ytfgkecffpkdjcaagreat", sum := "9d92bb327e77ae738ec200ba3258b88d741e3d79087699a3cea59849b7641083", func := "gridmarket/gridmarketlaw12.CertifyOneStatus", spec := "certifyOneStatus", unfollowed := true, recurses := true, apart := false }
def CertifyOneStatusSaid : Prop := certifyOneStatusRow.holds Tryz.pinned (OpenSpec.ofChange certifyOneStatusSpec)

/-- ITS FALSE NEIGHBOUR: 'it returns false'. Refute it at one input. -/
def certifyOneStatusWrong : ChangeSpec := { name := "certifyOneStatus", fn := fun _ => fun
  | [d1, d2, d3] => { results := [.lit (.bool false)], args := [d1, d2, d3] }
  | _ => none }
def CertifyOneStatusWrongFalsely : Prop := certifyOneStatusRow.holds Tryz.pinned (OpenSpec.ofChange certifyOneStatusWrong)

/-- 'gridmarketlaw05.ApproxSimplest': WHATEVER THE INPUT: true; the input reads as it did. -/
def approxSimplestSpec : ChangeSpec := { name := "approxSimplest", fn := fun _ => fun
  | [d] => { results := [.lit (.bool true)], args := [d] }
  | _ => none }
def approxSimplestRow : OpenClaim := { program := "ytfgkecffpkdjcaagreat", sum := "9d92bb327e77ae738ec200ba3258b88d741e3d79087699a3cea59849b7641083", func := "gridmarket/gridmarketlaw05.ApproxSimplest", spec := "approxSimplest", unfollowed := true, recurses := true, apart := false }
def ApproxSimplestSaid : Prop := approxSimplestRow.holds Tryz.pinned (OpenSpec.ofChange approxSimplestSpec)

/-- ITS FALSE NEIGHBOUR: 'it returns false'. Refute it at one input. -/
def approxSimplestWrong : ChangeSpec := { name := "approxSimplest", fn := fun _ => fun
  | [d] => { results := [.lit (.bool false)], args := [d] }
  | _ => none }
def ApproxSimplestWrongFalsely : Prop := approxSimplestRow.holds Tryz.pinned (OpenSpec.ofChange approxSimplestWrong)

/- THE SECOND FORM. 'bulk': how many values and letters a reading holds, each counted each time it is reached (what is shared counts as often as it is met; a slice's spare places count too). A statement '..UptoSaid' is the law's where the arguments, and the package variables that the reading takes, are together of bulk at most 1048576: NARROWER than '..Said'. Prove '..Said' where nothing that the law and all that it calls make is longer than what came in: it says more and counts as full. Else prove '..UptoSaid'. A law counts once. -/
mutual
def uptoBulk {H : Type} : DataW H → Nat
  | .lit (.string bytes) => bytes.length + 1
  | .lit _ => 1
  | .nil => 1
  | .ptr d => uptoBulk d + 1
  | .slice elems spare => uptoBulkAll elems + uptoBulkAll spare + 1
  | .agg parts => uptoBulkAll parts + 1
  | .iface _ d => uptoBulk d + 1
  | .map entries => uptoBulkEntries entries + 1
  | .held _ => 1
def uptoBulkAll {H : Type} : List (DataW H) → Nat
  | [] => 0
  | d :: r => uptoBulk d + uptoBulkAll r
def uptoBulkEntries {H : Type} : List (Lit × DataW H) → Nat
  | [] => 0
  | x :: r => uptoBulkEntry x + uptoBulkEntries r
def uptoBulkEntry {H : Type} : Lit × DataW H → Nat
  | (.string bytes, d) => bytes.length + uptoBulk d + 1
  | (_, d) => uptoBulk d + 1
 end
def uptoSmall : (H : Type) → List (DataW H) → Bool := fun _ ds => decide (uptoBulkAll ds ≤ 1048576)
def OpenSpec.upto (s : _root_.Go.ChangeSpec) : _root_.Go.OpenSpec := { _root_.Go.OpenSpec.ofChange s with cond := some uptoSmall }

/-- 'gridmarketlaw11.LinprogConvex', WHERE WHAT IT READS IS OF BULK AT MOST 1048576: true; the input reads as it did. -/
def linprogConvexUptoRow : OpenClaim := { program := "ytfgkecffpkdjcaagreat", sum := "9d92bb327e77ae738ec200ba3258b88d741e3d79087699a3cea59849b7641083", func := "gridmarket/gridmarketlaw11.LinprogConvex", spec := "linprogConvex", unfollowed := true, recurses := true, apart := false, narrowed := true }
def LinprogConvexUptoSaid : Prop := linprogConvexUptoRow.holds Tryz.pinned (OpenSpec.upto linprogConvexSpec)

/-- 'gridmarketlaw11.LinprogWeakDuality', WHERE WHAT IT READS IS OF BULK AT MOST 1048576: true; the input reads as it did. -/
def linprogWeakDualityUptoRow : OpenClaim := { program := "ytfgkecffpkdjcaagreat", sum := "9d92bb327e77ae738ec200ba3258b88d741e3d79087699a3cea59849b7641083", func := "gridmarket/gridmarketlaw11.LinprogWeakDuality", spec := "linprogWeakDuality", unfollowed := true, recurses := true, apart := false, narrowed := true }
def LinprogWeakDualityUptoSaid : Prop := linprogWeakDualityUptoRow.holds Tryz.pinned (OpenSpec.upto linprogWeakDualitySpec)

/-- 'gridmarketlaw11.LinprogMultipliers', WHERE WHAT IT READS IS OF BULK AT MOST 1048576: true; the input reads as it did. -/
def linprogMultipliersUptoRow : OpenClaim := { program := "ytfgkecffpkdjcaagreat", sum := "9d92bb327e77ae738ec200ba3258b88d741e3d79087699a3cea59849b7641083", func := "gridmarket/gridmarketlaw11.LinprogMultipliers", spec := "linprogMultipliers", unfollowed := true, recurses := true, apart := false, narrowed := true }
def LinprogMultipliersUptoSaid : Prop := linprogMultipliersUptoRow.holds Tryz.pinned (OpenSpec.upto linprogMultipliersSpec)

/-- 'gridmarketlaw11.LinprogPoints', WHERE WHAT IT READS IS OF BULK AT MOST 1048576: true; the input reads as it did. -/
def linprogPointsUptoRow : OpenClaim := { program := "ytfgkecffpkdjcaagreat", sum := "9d92bb327e77ae738ec200ba3258b88d741e3d79087699a3cea59849b7641083", func := "gridmarket/gridmarketlaw11.LinprogPoints", spec := "linprogPoints", unfollowed := true, recurses := true, apart := false, narrowed := true }
def LinprogPointsUptoSaid : Prop := linprogPointsUptoRow.holds Tryz.pinned (OpenSpec.upto linprogPointsSpec)

/-- 'gridmarketlaw11.LinprogMoreRows', WHERE WHAT IT READS IS OF BULK AT MOST 1048576: true; the input reads as it did. -/
def linprogMoreRowsUptoRow : OpenClaim := { program := "ytfgkecffpkdjcaagreat", sum := "9d92bb327e77ae738ec200ba3258b88d741e3d79087699a3cea59849b7641083", func := "gridmarket/gridmarketlaw11.LinprogMoreRows", spec := "linprogMoreRows", unfollowed := true, recurses := true, apart := false, narrowed := true }
def LinprogMoreRowsUptoSaid : Prop := linprogMoreRowsUptoRow.holds Tryz.pinned (OpenSpec.upto linprogMoreRowsSpec)

/-- 'gridmarketlaw11.LinprogChanges', WHERE WHAT IT READS IS OF BULK AT MOST 1048576: true; the input reads as it did. -/
def linprogChangesUptoRow : OpenClaim := { program := "ytfgkecffpkdjcaagreat", sum := "9d92bb327e77ae738ec200ba3258b88d741e3d79087699a3cea59849b7641083", func := "gridmarket/gridmarketlaw11.LinprogChanges", spec := "linprogChanges", unfollowed := true, recurses := true, apart := false, narrowed := true }
def LinprogChangesUptoSaid : Prop := linprogChangesUptoRow.holds Tryz.pinned (OpenSpec.upto linprogChangesSpec)

/-- 'gridmarketlaw12.CertifyOptimal', WHERE WHAT IT READS IS OF BULK AT MOST 1048576: true; the input reads as it did. -/
def certifyOptimalUptoRow : OpenClaim := { program := "ytfgkecffpkdjcaagreat", sum := "9d92bb327e77ae738ec200ba3258b88d741e3d79087699a3cea59849b7641083", func := "gridmarket/gridmarketlaw12.CertifyOptimal", spec := "certifyOptimal", unfollowed := true, recurses := true, apart := false, narrowed := true }
def CertifyOptimalUptoSaid : Prop := certifyOptimalUptoRow.holds Tryz.pinned (OpenSpec.upto certifyOptimalSpec)

/-- 'gridmarketlaw12.CertifyShortens', WHERE WHAT IT READS IS OF BULK AT MOST 1048576: true; the input reads as it did. -/
def certifyShortensUptoRow : OpenClaim := { program := "ytfgkecffpkdjcaagreat", sum := "9d92bb327e77ae738ec200ba3258b88d741e3d79087699a3cea59849b7641083", func := "gridmarket/gridmarketlaw12.CertifyShortens", spec := "certifyShortens", unfollowed := true, recurses := true, apart := false, narrowed := true }
def CertifyShortensUptoSaid : Prop := certifyShortensUptoRow.holds Tryz.pinned (OpenSpec.upto certifyShortensSpec)

/-- 'gridmarketlaw12.CertifyKeepsBound', WHERE WHAT IT READS IS OF BULK AT MOST 1048576: true; the input reads as it did. -/
def certifyKeepsBoundUptoRow : OpenClaim := { program := "ytfgkecffpkdjcaagreat", sum := "9d92bb327e77ae738ec200ba3258b88d741e3d79087699a3cea59849b7641083", func := "gridmarket/gridmarketlaw12.CertifyKeepsBound", spec := "certifyKeepsBound", unfollowed := true, recurses := true, apart := false, narrowed := true }
def CertifyKeepsBoundUptoSaid : Prop := certifyKeepsBoundUptoRow.holds Tryz.pinned (OpenSpec.upto certifyKeepsBoundSpec)

/-- 'gridmarketlaw12.CertifyInfeasible', WHERE WHAT IT READS IS OF BULK AT MOST 1048576: true; the input reads as it did. -/
def certifyInfeasibleUptoRow : OpenClaim := { program := "ytfgkecffpkdjcaagreat", sum := "9d92bb327e77ae738ec200ba3258b88d741e3d79087699a3cea59849b7641083", func := "gridmarket/gridmarketlaw12.CertifyInfeasible", spec := "certifyInfeasible", unfollowed := true, recurses := true, apart := false, narrowed := true }
def CertifyInfeasibleUptoSaid : Prop := certifyInfeasibleUptoRow.holds Tryz.pinned (OpenSpec.upto certifyInfeasibleSpec)

/-- 'gridmarketlaw12.CertifyUnbounded', WHERE WHAT IT READS IS OF BULK AT MOST 1048576: true; the input reads as it did. -/
def certifyUnboundedUptoRow : OpenClaim := { program := "ytfgkecffpkdjcaagreat", sum := "9d92bb327e77ae738ec200ba3258b88d741e3d79087699a3cea59849b7641083", func := "gridmarket/gridmarketlaw12.CertifyUnbounded", spec := "certifyUnbounded", unfollowed := true, recurses := true, apart := false, narrowed := true }
def CertifyUnboundedUptoSaid : Prop := certifyUnboundedUptoRow.holds Tryz.pinned (OpenSpec.upto certifyUnboundedSpec)

/-- 'gridmarketlaw12.CertifyExact', WHERE WHAT IT READS IS OF BULK AT MOST 1048576: true; the input reads as it did. -/
def certifyExactUptoRow : OpenClaim := { program := "ytfgkecffpkdjcaagreat", sum := "9d92bb327e77ae738ec200ba3258b88d741e3d79087699a3cea59849b7641083", func := "gridmarket/gridmarketlaw12.CertifyExact", spec := "certifyExact", unfollowed := true, recurses := true, apart := false, narrowed := true }
def CertifyExactUptoSaid : Prop := certifyExactUptoRow.holds Tryz.pinned (OpenSpec.upto certifyExactSpec)

/-- 'gridmarketlaw12.CertifyOneStatus', WHERE WHAT IT READS IS OF BULK AT MOST 1048576: true; the input reads as it did. -/
def certifyOneStatusUptoRow : OpenClaim := { program := "ytfgkecffpkdjcaagreat", sum := "9d92bb327e77ae738ec200ba3258b88d741e3d79087699a3cea59849b7641083", func := "gridmarket/gridmarketlaw12.CertifyOneStatus", spec := "certifyOneStatus", unfollowed := true, recurses := true, apart := false, narrowed := true }
def CertifyOneStatusUptoSaid : Prop := certifyOneStatusUptoRow.holds Tryz.pinned (OpenSpec.upto certifyOneStatusSpec)

/-- 'gridmarketlaw05.ApproxSimplest', WHERE WHAT IT READS IS OF BULK AT MOST 1048576: true; the input reads as it did. -/
def approxSimplestUptoRow : OpenClaim := { program := "ytfgkecffpkdjcaagreat", sum := "9d92bb327e77ae738ec200ba3258b88d741e3d79087699a3cea59849b7641083", func := "gridmarket/gridmarketlaw05.ApproxSimplest", spec := "approxSimplest", unfollowed := true, recurses := true, apart := false, narrowed := true }
def ApproxSimplestUptoSaid : Prop := approxSimplestUptoRow.holds Tryz.pinned (OpenSpec.upto approxSimplestSpec)

end Rows
end Go.Proofs.YtfgkecffpkdjcaaGreat
