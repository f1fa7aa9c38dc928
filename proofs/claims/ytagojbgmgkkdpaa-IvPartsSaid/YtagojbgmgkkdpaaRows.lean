/-
  No cell of these rows narrows 'for every input' (looked for: loops, veiled, ifaces, maps, wideKeys, modest, calm, conditions, laid).
  DERIVED. THE GIVEN ROWS OF THIS SEAT. 10 by the template 'for every input the law returns true; each argument reads behind the call as it read before'; 0 by the template 'total and deterministic' (their statements: YtagojbgmgkkdpaaTotals.lean).
  GIVEN WITH THE SEED: the statements are not yours to turn. If you find one false, say at which input.
  Laid BY PROGRAM, IN A SANDBOX (cutbox-rows.mjs): the forced cells as the released guide's own fill.sh prints them over the translation 2deb27c260a727f1… (all of the seat's roots in one cut). By AI agents, Wed Nov 11 2026. No macro, syntax, notation, axiom, sorry.
-/
import Derived.Test.YtagojbgmgkkdpaaChecked
import GoSem.Claim
import GoSem.ClaimJoined
import GoSem.ClaimMapViews
import Derived.JoinedTies
import Derived.KernelRfl
namespace Go.Proofs.Ytagojbgmgkkdpaa
/- THE CELL 'sum', in the pinned program and in every row, IS THE sha256 OF THE DUMP (.gsa) THAT YtagojbgmgkkdpaaProg.lean LOADS. Nothing in Lean hashes anything: it is a label: what it is worth is what the hold of that sum in a sandbox is worth. -/
noncomputable def Try.pinned : Pinned := { name := "ytagojbgmgkkdpaa", sum := "2deb27c260a727f19457370c7adf9a2b0f13e35af97b8cbcbb8d33977579ebf6", checked := Try.checked }
namespace Rows
def none {H : Type} : Left H := { results := [], args := [] }

/-- 'peloruslaw08.IvWider': WHATEVER THE INPUT: true; the input reads as it did. -/
def ivWiderSpec : ChangeSpec := { name := "ivWider", fn := fun _ => fun
  | [d1, d2, d3] => { results := [.lit (.bool true)], args := [d1, d2, d3] }
  | _ => none }
def ivWiderRow : OpenClaim := { program := "ytagojbgmgkkdpaa", sum := "2deb27c260a727f19457370c7adf9a2b0f13e35af97b8cbcbb8d33977579ebf6", func := "pelorus/peloruslaw08.IvWider", spec := "ivWider", inPlace := ["math/bits.Add64", "math/bits.Sub64"], apart := false }
def IvWiderSaid : Prop := ivWiderRow.holds Try.pinned (OpenSpec.ofChange ivWiderSpec)

/-- ITS FALSE NEIGHBOUR: 'it returns false'. Refute it at one input. -/
def ivWiderWrong : ChangeSpec := { name := "ivWider", fn := fun _ => fun
  | [d1, d2, d3] => { results := [.lit (.bool false)], args := [d1, d2, d3] }
  | _ => none }
def IvWiderWrongFalsely : Prop := ivWiderRow.holds Try.pinned (OpenSpec.ofChange ivWiderWrong)

/-- 'peloruslaw08.IvHalves': WHATEVER THE INPUT: true; the input reads as it did. -/
def ivHalvesSpec : ChangeSpec := { name := "ivHalves", fn := fun _ => fun
  | [d] => { results := [.lit (.bool true)], args := [d] }
  | _ => none }
def ivHalvesRow : OpenClaim := { program := "ytagojbgmgkkdpaa", sum := "2deb27c260a727f19457370c7adf9a2b0f13e35af97b8cbcbb8d33977579ebf6", func := "pelorus/peloruslaw08.IvHalves", spec := "ivHalves", inPlace := ["math/bits.Add64", "math/bits.Sub64"], apart := false }
def IvHalvesSaid : Prop := ivHalvesRow.holds Try.pinned (OpenSpec.ofChange ivHalvesSpec)

/-- ITS FALSE NEIGHBOUR: 'it returns false'. Refute it at one input. -/
def ivHalvesWrong : ChangeSpec := { name := "ivHalves", fn := fun _ => fun
  | [d] => { results := [.lit (.bool false)], args := [d] }
  | _ => none }
def IvHalvesWrongFalsely : Prop := ivHalvesRow.holds Try.pinned (OpenSpec.ofChange ivHalvesWrong)

/-- 'peloruslaw08.IvParts': WHATEVER THE INPUT: true; the input reads as it did. -/
def ivPartsSpec : ChangeSpec := { name := "ivParts", fn := fun _ => fun
  | [d1, d2] => { results := [.lit (.bool true)], args := [d1, d2] }
  | _ => none }
def ivPartsRow : OpenClaim := { program := "ytagojbgmgkkdpaa", sum := "2deb27c260a727f19457370c7adf9a2b0f13e35af97b8cbcbb8d33977579ebf6", func := "pelorus/peloruslaw08.IvParts", spec := "ivParts", inPlace := ["math/bits.Add64", "math/bits.Sub64"], apart := false }
def IvPartsSaid : Prop := ivPartsRow.holds Try.pinned (OpenSpec.ofChange ivPartsSpec)

/-- ITS FALSE NEIGHBOUR: 'it returns false'. Refute it at one input. -/
def ivPartsWrong : ChangeSpec := { name := "ivParts", fn := fun _ => fun
  | [d1, d2] => { results := [.lit (.bool false)], args := [d1, d2] }
  | _ => none }
def IvPartsWrongFalsely : Prop := ivPartsRow.holds Try.pinned (OpenSpec.ofChange ivPartsWrong)

/-- 'peloruslaw14.BoxSets': WHATEVER THE INPUT: true; the input reads as it did. -/
def boxSetsSpec : ChangeSpec := { name := "boxSets", fn := fun _ => fun
  | [d1, d2, d3] => { results := [.lit (.bool true)], args := [d1, d2, d3] }
  | _ => none }
def boxSetsRow : OpenClaim := { program := "ytagojbgmgkkdpaa", sum := "2deb27c260a727f19457370c7adf9a2b0f13e35af97b8cbcbb8d33977579ebf6", func := "pelorus/peloruslaw14.BoxSets", spec := "boxSets", inPlace := ["math/bits.Add64", "math/bits.Sub64"], unfollowed := true, recurses := true, apart := false }
def BoxSetsSaid : Prop := boxSetsRow.holds Try.pinned (OpenSpec.ofChange boxSetsSpec)

/-- ITS FALSE NEIGHBOUR: 'it returns false'. Refute it at one input. -/
def boxSetsWrong : ChangeSpec := { name := "boxSets", fn := fun _ => fun
  | [d1, d2, d3] => { results := [.lit (.bool false)], args := [d1, d2, d3] }
  | _ => none }
def BoxSetsWrongFalsely : Prop := boxSetsRow.holds Try.pinned (OpenSpec.ofChange boxSetsWrong)

/-- 'peloruslaw14.BoxHalves': WHATEVER THE INPUT: true; the input reads as it did. -/
def boxHalvesSpec : ChangeSpec := { name := "boxHalves", fn := fun _ => fun
  | [d] => { results := [.lit (.bool true)], args := [d] }
  | _ => none }
def boxHalvesRow : OpenClaim := { program := "ytagojbgmgkkdpaa", sum := "2deb27c260a727f19457370c7adf9a2b0f13e35af97b8cbcbb8d33977579ebf6", func := "pelorus/peloruslaw14.BoxHalves", spec := "boxHalves", inPlace := ["math/bits.Add64", "math/bits.Sub64"], unfollowed := true, recurses := true, apart := false }
def BoxHalvesSaid : Prop := boxHalvesRow.holds Try.pinned (OpenSpec.ofChange boxHalvesSpec)

/-- ITS FALSE NEIGHBOUR: 'it returns false'. Refute it at one input. -/
def boxHalvesWrong : ChangeSpec := { name := "boxHalves", fn := fun _ => fun
  | [d] => { results := [.lit (.bool false)], args := [d] }
  | _ => none }
def BoxHalvesWrongFalsely : Prop := boxHalvesRow.holds Try.pinned (OpenSpec.ofChange boxHalvesWrong)

/-- 'peloruslaw14.BoxHas': WHATEVER THE INPUT: true; the input reads as it did. -/
def boxHasSpec : ChangeSpec := { name := "boxHas", fn := fun _ => fun
  | [d1, d2, d3, d4] => { results := [.lit (.bool true)], args := [d1, d2, d3, d4] }
  | _ => none }
def boxHasRow : OpenClaim := { program := "ytagojbgmgkkdpaa", sum := "2deb27c260a727f19457370c7adf9a2b0f13e35af97b8cbcbb8d33977579ebf6", func := "pelorus/peloruslaw14.BoxHas", spec := "boxHas", inPlace := ["math/bits.Add64", "math/bits.Sub64"], unfollowed := true, recurses := true, apart := false }
def BoxHasSaid : Prop := boxHasRow.holds Try.pinned (OpenSpec.ofChange boxHasSpec)

/-- ITS FALSE NEIGHBOUR: 'it returns false'. Refute it at one input. -/
def boxHasWrong : ChangeSpec := { name := "boxHas", fn := fun _ => fun
  | [d1, d2, d3, d4] => { results := [.lit (.bool false)], args := [d1, d2, d3, d4] }
  | _ => none }
def BoxHasWrongFalsely : Prop := boxHasRow.holds Try.pinned (OpenSpec.ofChange boxHasWrong)

/-- 'peloruslaw14.BoxOrder': WHATEVER THE INPUT: true; the input reads as it did. -/
def boxOrderSpec : ChangeSpec := { name := "boxOrder", fn := fun _ => fun
  | [d1, d2, d3] => { results := [.lit (.bool true)], args := [d1, d2, d3] }
  | _ => none }
def boxOrderRow : OpenClaim := { program := "ytagojbgmgkkdpaa", sum := "2deb27c260a727f19457370c7adf9a2b0f13e35af97b8cbcbb8d33977579ebf6", func := "pelorus/peloruslaw14.BoxOrder", spec := "boxOrder", inPlace := ["math/bits.Add64", "math/bits.Sub64"], unfollowed := true, recurses := true, apart := false }
def BoxOrderSaid : Prop := boxOrderRow.holds Try.pinned (OpenSpec.ofChange boxOrderSpec)

/-- ITS FALSE NEIGHBOUR: 'it returns false'. Refute it at one input. -/
def boxOrderWrong : ChangeSpec := { name := "boxOrder", fn := fun _ => fun
  | [d1, d2, d3] => { results := [.lit (.bool false)], args := [d1, d2, d3] }
  | _ => none }
def BoxOrderWrongFalsely : Prop := boxOrderRow.holds Try.pinned (OpenSpec.ofChange boxOrderWrong)

/-- 'peloruslaw20.PavingCells': WHATEVER THE INPUT: true; the input reads as it did. -/
def pavingCellsSpec : ChangeSpec := { name := "pavingCells", fn := fun _ => fun
  | [d1, d2, d3, d4, d5] => { results := [.lit (.bool true)], args := [d1, d2, d3, d4, d5] }
  | _ => none }
def pavingCellsRow : OpenClaim := { program := "ytagojbgmgkkdpaa", sum := "2deb27c260a727f19457370c7adf9a2b0f13e35af97b8cbcbb8d33977579ebf6", func := "pelorus/peloruslaw20.PavingCells", spec := "pavingCells", inPlace := ["math/bits.Add64", "math/bits.Sub64"], unfollowed := true, recurses := true, apart := false }
def PavingCellsSaid : Prop := pavingCellsRow.holds Try.pinned (OpenSpec.ofChange pavingCellsSpec)

/-- ITS FALSE NEIGHBOUR: 'it returns false'. Refute it at one input. -/
def pavingCellsWrong : ChangeSpec := { name := "pavingCells", fn := fun _ => fun
  | [d1, d2, d3, d4, d5] => { results := [.lit (.bool false)], args := [d1, d2, d3, d4, d5] }
  | _ => none }
def PavingCellsWrongFalsely : Prop := pavingCellsRow.holds Try.pinned (OpenSpec.ofChange pavingCellsWrong)

/-- 'peloruslaw20.PavingParts': WHATEVER THE INPUT: true; the input reads as it did. -/
def pavingPartsSpec : ChangeSpec := { name := "pavingParts", fn := fun _ => fun
  | [d] => { results := [.lit (.bool true)], args := [d] }
  | _ => none }
def pavingPartsRow : OpenClaim := { program := "ytagojbgmgkkdpaa", sum := "2deb27c260a727f19457370c7adf9a2b0f13e35af97b8cbcbb8d33977579ebf6", func := "pelorus/peloruslaw20.PavingParts", spec := "pavingParts", inPlace := ["math/bits.Add64", "math/bits.Sub64"], unfollowed := true, recurses := true, apart := false }
def PavingPartsSaid : Prop := pavingPartsRow.holds Try.pinned (OpenSpec.ofChange pavingPartsSpec)

/-- ITS FALSE NEIGHBOUR: 'it returns false'. Refute it at one input. -/
def pavingPartsWrong : ChangeSpec := { name := "pavingParts", fn := fun _ => fun
  | [d] => { results := [.lit (.bool false)], args := [d] }
  | _ => none }
def PavingPartsWrongFalsely : Prop := pavingPartsRow.holds Try.pinned (OpenSpec.ofChange pavingPartsWrong)

/-- 'peloruslaw20.PavingRuns': WHATEVER THE INPUT: true; the input reads as it did. -/
def pavingRunsSpec : ChangeSpec := { name := "pavingRuns", fn := fun _ => fun
  | [d1, d2] => { results := [.lit (.bool true)], args := [d1, d2] }
  | _ => none }
def pavingRunsRow : OpenClaim := { program := "ytagojbgmgkkdpaa", sum := "2deb27c260a727f19457370c7adf9a2b0f13e35af97b8cbcbb8d33977579ebf6", func := "pelorus/peloruslaw20.PavingRuns", spec := "pavingRuns", inPlace := ["math/bits.Add64", "math/bits.Sub64"], unfollowed := true, recurses := true, apart := false }
def PavingRunsSaid : Prop := pavingRunsRow.holds Try.pinned (OpenSpec.ofChange pavingRunsSpec)

/-- ITS FALSE NEIGHBOUR: 'it returns false'. Refute it at one input. -/
def pavingRunsWrong : ChangeSpec := { name := "pavingRuns", fn := fun _ => fun
  | [d1, d2] => { results := [.lit (.bool false)], args := [d1, d2] }
  | _ => none }
def PavingRunsWrongFalsely : Prop := pavingRunsRow.holds Try.pinned (OpenSpec.ofChange pavingRunsWrong)

/- THE SECOND FORM. 'bulk': how many values and letters a reading holds, each counted each time it is reached (what is shared counts as often as it is met; a slice's spare places count too). A statement '..UptoSaid' is the law's where the arguments, and the package variables that the reading takes, are together of bulk at most 1048576: NARROWER than '..Said'. Prove '..Said' where nothing that the law and all that it calls make is longer than what came in: it says more and counts as full. Else prove '..UptoSaid'. A law counts once. -/
mutual
def uptoBulk {H : Type} : DataW H → Nat
  | .lit (.string bytes) => bytes.length + 1
  | .lit _ => 1
  | .nil => 1
  | .ptr d => uptoBulk d + 1
  | .slice elems spare => uptoBulkAll elems + uptoBulkAll spare + 1
  | .agg parts => uptoBulkAll parts + 1
  | .iface _ d => uptoBulk d + 1
  | .map entries => uptoBulkEntries entries + 1
  | .held _ => 1
def uptoBulkAll {H : Type} : List (DataW H) → Nat
  | [] => 0
  | d :: r => uptoBulk d + uptoBulkAll r
def uptoBulkEntries {H : Type} : List (Lit × DataW H) → Nat
  | [] => 0
  | x :: r => uptoBulkEntry x + uptoBulkEntries r
def uptoBulkEntry {H : Type} : Lit × DataW H → Nat
  | (.string bytes, d) => bytes.length + uptoBulk d + 1
  | (_, d) => uptoBulk d + 1
 end
def uptoSmall : (H : Type) → List (DataW H) → Bool := fun _ ds => decide (uptoBulkAll ds ≤ 1048576)
def OpenSpec.upto (s : _root_.Go.ChangeSpec) : _root_.Go.OpenSpec := { _root_.Go.OpenSpec.ofChange s with cond := some uptoSmall }

/-- 'peloruslaw08.IvWider', WHERE WHAT IT READS IS OF BULK AT MOST 1048576: true; the input reads as it did. -/
def ivWiderUptoRow : OpenClaim := { program := "ytagojbgmgkkdpaa", sum := "2deb27c260a727f19457370c7adf9a2b0f13e35af97b8cbcbb8d33977579ebf6", func := "pelorus/peloruslaw08.IvWider", spec := "ivWider", inPlace := ["math/bits.Add64", "math/bits.Sub64"], apart := false, narrowed := true }
def IvWiderUptoSaid : Prop := ivWiderUptoRow.holds Try.pinned (OpenSpec.upto ivWiderSpec)

/-- 'peloruslaw08.IvHalves', WHERE WHAT IT READS IS OF BULK AT MOST 1048576: true; the input reads as it did. -/
def ivHalvesUptoRow : OpenClaim := { program := "ytagojbgmgkkdpaa", sum := "2deb27c260a727f19457370c7adf9a2b0f13e35af97b8cbcbb8d33977579ebf6", func := "pelorus/peloruslaw08.IvHalves", spec := "ivHalves", inPlace := ["math/bits.Add64", "math/bits.Sub64"], apart := false, narrowed := true }
def IvHalvesUptoSaid : Prop := ivHalvesUptoRow.holds Try.pinned (OpenSpec.upto ivHalvesSpec)

/-- 'peloruslaw08.IvParts', WHERE WHAT IT READS IS OF BULK AT MOST 1048576: true; the input reads as it did. -/
def ivPartsUptoRow : OpenClaim := { program := "ytagojbgmgkkdpaa", sum := "2deb27c260a727f19457370c7adf9a2b0f13e35af97b8cbcbb8d33977579ebf6", func := "pelorus/peloruslaw08.IvParts", spec := "ivParts", inPlace := ["math/bits.Add64", "math/bits.Sub64"], apart := false, narrowed := true }
def IvPartsUptoSaid : Prop := ivPartsUptoRow.holds Try.pinned (OpenSpec.upto ivPartsSpec)

/-- 'peloruslaw14.BoxSets', WHERE WHAT IT READS IS OF BULK AT MOST 1048576: true; the input reads as it did. -/
def boxSetsUptoRow : OpenClaim := { program := "ytagojbgmgkkdpaa", sum := "2deb27c260a727f19457370c7adf9a2b0f13e35af97b8cbcbb8d33977579ebf6", func := "pelorus/peloruslaw14.BoxSets", spec := "boxSets", inPlace := ["math/bits.Add64", "math/bits.Sub64"], unfollowed := true, recurses := true, apart := false, narrowed := true }
def BoxSetsUptoSaid : Prop := boxSetsUptoRow.holds Try.pinned (OpenSpec.upto boxSetsSpec)

/-- 'peloruslaw14.BoxHalves', WHERE WHAT IT READS IS OF BULK AT MOST 1048576: true; the input reads as it did. -/
def boxHalvesUptoRow : OpenClaim := { program := "ytagojbgmgkkdpaa", sum := "2deb27c260a727f19457370c7adf9a2b0f13e35af97b8cbcbb8d33977579ebf6", func := "pelorus/peloruslaw14.BoxHalves", spec := "boxHalves", inPlace := ["math/bits.Add64", "math/bits.Sub64"], unfollowed := true, recurses := true, apart := false, narrowed := true }
def BoxHalvesUptoSaid : Prop := boxHalvesUptoRow.holds Try.pinned (OpenSpec.upto boxHalvesSpec)

/-- 'peloruslaw14.BoxHas', WHERE WHAT IT READS IS OF BULK AT MOST 1048576: true; the input reads as it did. -/
def boxHasUptoRow : OpenClaim := { program := "ytagojbgmgkkdpaa", sum := "2deb27c260a727f19457370c7adf9a2b0f13e35af97b8cbcbb8d33977579ebf6", func := "pelorus/peloruslaw14.BoxHas", spec := "boxHas", inPlace := ["math/bits.Add64", "math/bits.Sub64"], unfollowed := true, recurses := true, apart := false, narrowed := true }
def BoxHasUptoSaid : Prop := boxHasUptoRow.holds Try.pinned (OpenSpec.upto boxHasSpec)

/-- 'peloruslaw14.BoxOrder', WHERE WHAT IT READS IS OF BULK AT MOST 1048576: true; the input reads as it did. -/
def boxOrderUptoRow : OpenClaim := { program := "ytagojbgmgkkdpaa", sum := "2deb27c260a727f19457370c7adf9a2b0f13e35af97b8cbcbb8d33977579ebf6", func := "pelorus/peloruslaw14.BoxOrder", spec := "boxOrder", inPlace := ["math/bits.Add64", "math/bits.Sub64"], unfollowed := true, recurses := true, apart := false, narrowed := true }
def BoxOrderUptoSaid : Prop := boxOrderUptoRow.holds Try.pinned (OpenSpec.upto boxOrderSpec)

/-- 'peloruslaw20.PavingCells', WHERE WHAT IT READS IS OF BULK AT MOST 1048576: true; the input reads as it did. -/
def pavingCellsUptoRow : OpenClaim := { program := "ytagojbgmgkkdpaa", sum := "2deb27c260a727f19457370c7adf9a2b0f13e35af97b8cbcbb8d33977579ebf6", func := "pelorus/peloruslaw20.PavingCells", spec := "pavingCells", inPlace := ["math/bits.Add64", "math/bits.Sub64"], unfollowed := true, recurses := true, apart := false, narrowed := true }
def PavingCellsUptoSaid : Prop := pavingCellsUptoRow.holds Try.pinned (OpenSpec.upto pavingCellsSpec)

/-- 'peloruslaw20.PavingParts', WHERE WHAT IT READS IS OF BULK AT MOST 1048576: true; the input reads as it did. -/
def pavingPartsUptoRow : OpenClaim := { program := "ytagojbgmgkkdpaa", sum := "2deb27c260a727f19457370c7adf9a2b0f13e35af97b8cbcbb8d33977579ebf6", func := "pelorus/peloruslaw20.PavingParts", spec := "pavingParts", inPlace := ["math/bits.Add64", "math/bits.Sub64"], unfollowed := true, recurses := true, apart := false, narrowed := true }
def PavingPartsUptoSaid : Prop := pavingPartsUptoRow.holds Try.pinned (OpenSpec.upto pavingPartsSpec)

/-- 'peloruslaw20.PavingRuns', WHERE WHAT IT READS IS OF BULK AT MOST 1048576: true; the input reads as it did. -/
def pavingRunsUptoRow : OpenClaim := { program := "ytagojbgmgkkdpaa", sum := "2deb27c260a727f19457370c7adf9a2b0f13e35af97b8cbcbb8d33977579ebf6", func := "pelorus/peloruslaw20.PavingRuns", spec := "pavingRuns", inPlace := ["math/bits.Add64", "math/bits.Sub64"], unfollowed := true, recurses := true, apart := false, narrowed := true }
def PavingRunsUptoSaid : Prop := pavingRunsUptoRow.holds Try.pinned (OpenSpec.upto pavingRunsSpec)

end Rows
end Go.Proofs.Ytagojbgmgkkdpaa
