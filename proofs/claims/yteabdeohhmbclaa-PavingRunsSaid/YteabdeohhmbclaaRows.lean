/-
  No cell of these rows narrows 'for every input' (looked for: loops, veiled, ifaces, maps, wideKeys, modest, calm, conditions, laid).
  DERIVED. THE GIVEN ROWS OF THIS SEAT. 3 by the template 'for every input the law returns true; each argument reads behind the call as it read before'; 0 by the template 'total and deterministic' (their statements: YteabdeohhmbclaaTotals.lean).
  GIVEN WITH THE SEED: the statements are not yours to turn. If you find one false, say at which input.
  Laid BY PROGRAM, IN A SANDBOX (cutbox-rows.mjs): the forced cells as the released guide's own fill.sh prints them over the translation 0fdcdf1405f5d545… (all of the seat's roots in one cut). By AI agents, Wed Nov 11 2026. No macro, syntax, notation, axiom, sorry.
-/
import Derived.Test.YteabdeohhmbclaaChecked
import GoSem.Claim
import GoSem.ClaimJoined
import GoSem.ClaimMapViews
import Derived.JoinedTies
import Derived.KernelRfl
namespace Go.Proofs.Yteabdeohhmbclaa
/- THE CELL 'sum', in the pinned program and in every row, IS THE sha256 OF THE DUMP (.gsa) THAT YteabdeohhmbclaaProg.lean LOADS. Nothing in Lean hashes anything: it is a label: what it is worth is what the hold of that sum in a sandbox is worth. -/
noncomputable def Try.pinned : Pinned := { name := "yteabdeohhmbclaa", sum := "0fdcdf1405f5d54521a99c6ae034ffa876f450a236f94756ab4825cbdd935395", checked := Try.checked }
namespace Rows
def none {H : Type} : Left H := { results := [], args := [] }

/-- 'peloruslaw20.PavingCells': WHATEVER THE INPUT: true; the input reads as it did. -/
def pavingCellsSpec : ChangeSpec := { name := "pavingCells", fn := fun _ => fun
  | [d1, d2, d3, d4, d5] => { results := [.lit (.bool true)], args := [d1, d2, d3, d4, d5] }
  | _ => none }
def pavingCellsRow : OpenClaim := { program := "yteabdeohhmbclaa", sum := "0fdcdf1405f5d54521a99c6ae034ffa876f450a236f94756ab4825cbdd935395", func := "pelorus/peloruslaw20.PavingCells", spec := "pavingCells", inPlace := ["math/bits.Add64", "math/bits.Sub64"], unfollowed := true, recurses := true, apart := false }
def PavingCellsSaid : Prop := pavingCellsRow.holds Try.pinned (OpenSpec.ofChange pavingCellsSpec)

/-- ITS FALSE NEIGHBOUR: 'it returns false'. Refute it at one input. -/
def pavingCellsWrong : ChangeSpec := { name := "pavingCells", fn := fun _ => fun
  | [d1, d2, d3, d4, d5] => { results := [.lit (.bool false)], args := [d1, d2, d3, d4, d5] }
  | _ => none }
def PavingCellsWrongFalsely : Prop := pavingCellsRow.holds Try.pinned (OpenSpec.ofChange pavingCellsWrong)

/-- 'peloruslaw20.PavingParts': WHATEVER THE INPUT: true; the input reads as it did. -/
def pavingPartsSpec : ChangeSpec := { name := "pavingParts", fn := fun _ => fun
  | [d] => { results := [.lit (.bool true)], args := [d] }
  | _ => none }
def pavingPartsRow : OpenClaim := { program := "yteabdeohhmbclaa", sum := "0fdcdf1405f5d54521a99c6ae034ffa876f450a236f94756ab4825cbdd935395", func := "pelorus/peloruslaw20.PavingParts", spec := "pavingParts", inPlace := ["math/bits.Add64", "math/bits.Sub64"], unfollowed := true, recurses := true, apart := false }
def PavingPartsSaid : Prop := pavingPartsRow.holds Try.pinned (OpenSpec.ofChange pavingPartsSpec)

/-- ITS FALSE NEIGHBOUR: 'it returns false'. Refute it at one input. -/
def pavingPartsWrong : ChangeSpec := { name := "pavingParts", fn := fun _ => fun
  | [d] => { results := [.lit (.bool false)], args := [d] }
  | _ => none }
def PavingPartsWrongFalsely : Prop := pavingPartsRow.holds Try.pinned (OpenSpec.ofChange pavingPartsWrong)

/-- 'peloruslaw20.PavingRuns': WHATEVER THE INPUT: true; the input reads as it did. -/
def pavingRunsSpec : ChangeSpec := { name := "pavingRuns", fn := fun _ => fun
  | [d1, d2] => { results := [.lit (.bool true)], args := [d1, d2] }
  | _ => none }
def pavingRunsRow : OpenClaim := { program := "yteabdeohhmbclaa", sum := "0fdcdf1405f5d54521a99c6ae034ffa876f450a236f94756ab4825cbdd935395", func := "pelorus/peloruslaw20.PavingRuns", spec := "pavingRuns", inPlace := ["math/bits.Add64", "math/bits.Sub64"], unfollowed := true, recurses := true, apart := false }
def PavingRunsSaid : Prop := pavingRunsRow.holds Try.pinned (OpenSpec.ofChange pavingRunsSpec)

/-- ITS FALSE NEIGHBOUR: 'it returns false'. Refute it at one input. -/
def pavingRunsWrong : ChangeSpec := { name := "pavingRuns", fn := fun _ => fun
  | [d1, d2] => { results := [.lit (.bool false)], args := [d1, d2] }
  | _ => none }
def PavingRunsWrongFalsely : Prop := pavingRunsRow.holds Try.pinned (OpenSpec.ofChange pavingRunsWrong)

/- THE SECOND FORM. 'bulk': how many values and letters a reading holds, each counted each time it is reached (what is shared counts as often as it is met; a slice's spare places count too). A statement '..UptoSaid' is the law's where the arguments, and the package variables that the reading takes, are together of bulk at most 1048576: NARROWER than '..Said'. Prove '..Said' where nothing that the law and all that it calls make is longer than what came in: it says more and counts as full. Else prove '..UptoSaid'. A law counts once. -/
mutual
def uptoBulk {H : Type} : DataW H → Nat
  | .lit (.string bytes) => bytes.length + 1
  | .lit _ => 1
  | .nil => 1
  | .ptr d => uptoBulk d + 1
  | .slice elems spare => uptoBulkAll elems + uptoBulkAll spare + 1
  | .agg parts => uptoBulkAll parts + 1
  | .iface _ d => uptoBulk d + 1
  | .map entries => uptoBulkEntries entries + 1
  | .held _ => 1
def uptoBulkAll {H : Type} : List (DataW H) → Nat
  | [] => 0
  | d :: r => uptoBulk d + uptoBulkAll r
def uptoBulkEntries {H : Type} : List (Lit × DataW H) → Nat
  | [] => 0
  | x :: r => uptoBulkEntry x + uptoBulkEntries r
def uptoBulkEntry {H : Type} : Lit × DataW H → Nat
  | (.string bytes, d) => bytes.length + uptoBulk d + 1
  | (_, d) => uptoBulk d + 1
 end
def uptoSmall : (H : Type) → List (DataW H) → Bool := fun _ ds => decide (uptoBulkAll ds ≤ 1048576)
def OpenSpec.upto (s : _root_.Go.ChangeSpec) : _root_.Go.OpenSpec := { _root_.Go.OpenSpec.ofChange s with cond := some uptoSmall }

/-- 'peloruslaw20.PavingCells', WHERE WHAT IT READS IS OF BULK AT MOST 1048576: true; the input reads as it did. -/
def pavingCellsUptoRow : OpenClaim := { program := "yteabdeohhmbclaa", sum := "0fdcdf1405f5d54521a99c6ae034ffa876f450a236f94756ab4825cbdd935395", func := "pelorus/peloruslaw20.PavingCells", spec := "pavingCells", inPlace := ["math/bits.Add64", "math/bits.Sub64"], unfollowed := true, recurses := true, apart := false, narrowed := true }
def PavingCellsUptoSaid : Prop := pavingCellsUptoRow.holds Try.pinned (OpenSpec.upto pavingCellsSpec)

/-- 'peloruslaw20.PavingParts', WHERE WHAT IT READS IS OF BULK AT MOST 1048576: true; the input reads as it did. -/
def pavingPartsUptoRow : OpenClaim := { program := "yteabdeohhmbclaa", sum := "0fdcdf1405f5d54521a99c6ae034ffa876f450a236f94756ab4825cbdd935395", func := "pelorus/peloruslaw20.PavingParts", spec := "pavingParts", inPlace := ["math/bits.Add64", "math/bits.Sub64"], unfollowed := true, recurses := true, apart := false, narrowed := true }
def PavingPartsUptoSaid : Prop := pavingPartsUptoRow.holds Try.pinned (OpenSpec.upto pavingPartsSpec)

/-- 'peloruslaw20.PavingRuns', WHERE WHAT IT READS IS OF BULK AT MOST 1048576: true; the input reads as it did. -/
def pavingRunsUptoRow : OpenClaim := { program := "yteabdeohhmbclaa", sum := "0fdcdf1405f5d54521a99c6ae034ffa876f450a236f94756ab4825cbdd935395", func := "pelorus/peloruslaw20.PavingRuns", spec := "pavingRuns", inPlace := ["math/bits.Add64", "math/bits.Sub64"], unfollowed := true, recurses := true, apart := false, narrowed := true }
def PavingRunsUptoSaid : Prop := pavingRunsUptoRow.holds Try.pinned (OpenSpec.upto pavingRunsSpec)

end Rows
end Go.Proofs.Yteabdeohhmbclaa
