/-
  No cell of these rows narrows 'for every input' (looked for: loops, veiled, ifaces, maps, wideKeys, modest, calm, conditions, laid).
  DERIVED. THE GIVEN ROWS OF THIS SEAT. 11 by the template 'for every input the law returns true; each argument reads behind the call as it read before'; 0 by the template 'total and deterministic' (their statements: YtakajahogjeiaaaTotals.lean).
  GIVEN WITH THE SEED: the statements are not yours to turn. If you find one false, say at which input.
  Laid BY PROGRAM, IN A SANDBOX (cutbox-rows.mjs): the forced cells as the released guide's own fill.sh prints them over the translation 7e9042d17cdfd064… (all of the seat's roots in one cut). By AI agents, Wed Nov 11 2026. No macro, syntax, notation, axiom, sorry.
-/
import Derived.Test.YtakajahogjeiaaaChecked
import GoSem.Claim
import GoSem.ClaimJoined
import GoSem.ClaimMapViews
import Derived.JoinedTies
import Derived.KernelRfl
namespace Go.Proofs.Ytakajahogjeiaaa
/- THE CELL 'sum', in the pinned program and in every row, IS THE sha256 OF THE DUMP (.gsa) THAT YtakajahogjeiaaaProg.lean LOADS. Nothing in Lean hashes anything: it is a label: what it is worth is what the hold of that sum in a sandbox is worth. -/
noncomputable def Try.pinned : Pinned := { name := "ytakajahogjeiaaa", sum := "7e9042d17cdfd0645a4c829c4008ccd3593c8d48f058ccedbb5038cbb112ca64", checked := Try.checked }
namespace Rows
def none {H : Type} : Left H := { results := [], args := [] }

/-- 'peloruslaw21.DegreeTurns': WHATEVER THE INPUT: true; the input reads as it did. -/
def degreeTurnsSpec : ChangeSpec := { name := "degreeTurns", fn := fun _ => fun
  | [d1, d2] => { results := [.lit (.bool true)], args := [d1, d2] }
  | _ => none }
def degreeTurnsRow : OpenClaim := { program := "ytakajahogjeiaaa", sum := "7e9042d17cdfd0645a4c829c4008ccd3593c8d48f058ccedbb5038cbb112ca64", func := "pelorus/peloruslaw21.DegreeTurns", spec := "degreeTurns", unfollowed := true, recurses := true, apart := false }
def DegreeTurnsSaid : Prop := degreeTurnsRow.holds Try.pinned (OpenSpec.ofChange degreeTurnsSpec)

/-- ITS FALSE NEIGHBOUR: 'it returns false'. Refute it at one input. -/
def degreeTurnsWrong : ChangeSpec := { name := "degreeTurns", fn := fun _ => fun
  | [d1, d2] => { results := [.lit (.bool false)], args := [d1, d2] }
  | _ => none }
def DegreeTurnsWrongFalsely : Prop := degreeTurnsRow.holds Try.pinned (OpenSpec.ofChange degreeTurnsWrong)

/-- 'peloruslaw21.DegreeScales': WHATEVER THE INPUT: true; the input reads as it did. -/
def degreeScalesSpec : ChangeSpec := { name := "degreeScales", fn := fun _ => fun
  | [d1, d2] => { results := [.lit (.bool true)], args := [d1, d2] }
  | _ => none }
def degreeScalesRow : OpenClaim := { program := "ytakajahogjeiaaa", sum := "7e9042d17cdfd0645a4c829c4008ccd3593c8d48f058ccedbb5038cbb112ca64", func := "pelorus/peloruslaw21.DegreeScales", spec := "degreeScales", unfollowed := true, recurses := true, apart := false }
def DegreeScalesSaid : Prop := degreeScalesRow.holds Try.pinned (OpenSpec.ofChange degreeScalesSpec)

/-- ITS FALSE NEIGHBOUR: 'it returns false'. Refute it at one input. -/
def degreeScalesWrong : ChangeSpec := { name := "degreeScales", fn := fun _ => fun
  | [d1, d2] => { results := [.lit (.bool false)], args := [d1, d2] }
  | _ => none }
def DegreeScalesWrongFalsely : Prop := degreeScalesRow.holds Try.pinned (OpenSpec.ofChange degreeScalesWrong)

/-- 'peloruslaw21.DegreeBoxes': WHATEVER THE INPUT: true; the input reads as it did. -/
def degreeBoxesSpec : ChangeSpec := { name := "degreeBoxes", fn := fun _ => fun
  | [d1, d2, d3, d4] => { results := [.lit (.bool true)], args := [d1, d2, d3, d4] }
  | _ => none }
def degreeBoxesRow : OpenClaim := { program := "ytakajahogjeiaaa", sum := "7e9042d17cdfd0645a4c829c4008ccd3593c8d48f058ccedbb5038cbb112ca64", func := "pelorus/peloruslaw21.DegreeBoxes", spec := "degreeBoxes", unfollowed := true, recurses := true, apart := false }
def DegreeBoxesSaid : Prop := degreeBoxesRow.holds Try.pinned (OpenSpec.ofChange degreeBoxesSpec)

/-- ITS FALSE NEIGHBOUR: 'it returns false'. Refute it at one input. -/
def degreeBoxesWrong : ChangeSpec := { name := "degreeBoxes", fn := fun _ => fun
  | [d1, d2, d3, d4] => { results := [.lit (.bool false)], args := [d1, d2, d3, d4] }
  | _ => none }
def DegreeBoxesWrongFalsely : Prop := degreeBoxesRow.holds Try.pinned (OpenSpec.ofChange degreeBoxesWrong)

/-- 'peloruslaw23.CodecJoins': WHATEVER THE INPUT: true; the input reads as it did. -/
def codecJoinsSpec : ChangeSpec := { name := "codecJoins", fn := fun _ => fun
  | [d1, d2] => { results := [.lit (.bool true)], args := [d1, d2] }
  | _ => none }
def codecJoinsRow : OpenClaim := { program := "ytakajahogjeiaaa", sum := "7e9042d17cdfd0645a4c829c4008ccd3593c8d48f058ccedbb5038cbb112ca64", func := "pelorus/peloruslaw23.CodecJoins", spec := "codecJoins", apart := false }
def CodecJoinsSaid : Prop := codecJoinsRow.holds Try.pinned (OpenSpec.ofChange codecJoinsSpec)

/-- ITS FALSE NEIGHBOUR: 'it returns false'. Refute it at one input. -/
def codecJoinsWrong : ChangeSpec := { name := "codecJoins", fn := fun _ => fun
  | [d1, d2] => { results := [.lit (.bool false)], args := [d1, d2] }
  | _ => none }
def CodecJoinsWrongFalsely : Prop := codecJoinsRow.holds Try.pinned (OpenSpec.ofChange codecJoinsWrong)

/-- 'peloruslaw21.DegreeWinds': WHATEVER THE INPUT: true; the input reads as it did. -/
def degreeWindsSpec : ChangeSpec := { name := "degreeWinds", fn := fun _ => fun
  | [d1, d2, d3, d4] => { results := [.lit (.bool true)], args := [d1, d2, d3, d4] }
  | _ => none }
def degreeWindsRow : OpenClaim := { program := "ytakajahogjeiaaa", sum := "7e9042d17cdfd0645a4c829c4008ccd3593c8d48f058ccedbb5038cbb112ca64", func := "pelorus/peloruslaw21.DegreeWinds", spec := "degreeWinds", unfollowed := true, recurses := true, apart := false }
def DegreeWindsSaid : Prop := degreeWindsRow.holds Try.pinned (OpenSpec.ofChange degreeWindsSpec)

/-- ITS FALSE NEIGHBOUR: 'it returns false'. Refute it at one input. -/
def degreeWindsWrong : ChangeSpec := { name := "degreeWinds", fn := fun _ => fun
  | [d1, d2, d3, d4] => { results := [.lit (.bool false)], args := [d1, d2, d3, d4] }
  | _ => none }
def DegreeWindsWrongFalsely : Prop := degreeWindsRow.holds Try.pinned (OpenSpec.ofChange degreeWindsWrong)

/-- 'peloruslaw21.DegreeJoins': WHATEVER THE INPUT: true; the input reads as it did. -/
def degreeJoinsSpec : ChangeSpec := { name := "degreeJoins", fn := fun _ => fun
  | [d1, d2] => { results := [.lit (.bool true)], args := [d1, d2] }
  | _ => none }
def degreeJoinsRow : OpenClaim := { program := "ytakajahogjeiaaa", sum := "7e9042d17cdfd0645a4c829c4008ccd3593c8d48f058ccedbb5038cbb112ca64", func := "pelorus/peloruslaw21.DegreeJoins", spec := "degreeJoins", unfollowed := true, recurses := true, apart := false }
def DegreeJoinsSaid : Prop := degreeJoinsRow.holds Try.pinned (OpenSpec.ofChange degreeJoinsSpec)

/-- ITS FALSE NEIGHBOUR: 'it returns false'. Refute it at one input. -/
def degreeJoinsWrong : ChangeSpec := { name := "degreeJoins", fn := fun _ => fun
  | [d1, d2] => { results := [.lit (.bool false)], args := [d1, d2] }
  | _ => none }
def DegreeJoinsWrongFalsely : Prop := degreeJoinsRow.holds Try.pinned (OpenSpec.ofChange degreeJoinsWrong)

/-- 'peloruslaw23.CodecEncodes': WHATEVER THE INPUT: true; the input reads as it did. -/
def codecEncodesSpec : ChangeSpec := { name := "codecEncodes", fn := fun _ => fun
  | [d1, d2] => { results := [.lit (.bool true)], args := [d1, d2] }
  | _ => none }
def codecEncodesRow : OpenClaim := { program := "ytakajahogjeiaaa", sum := "7e9042d17cdfd0645a4c829c4008ccd3593c8d48f058ccedbb5038cbb112ca64", func := "pelorus/peloruslaw23.CodecEncodes", spec := "codecEncodes", apart := false }
def CodecEncodesSaid : Prop := codecEncodesRow.holds Try.pinned (OpenSpec.ofChange codecEncodesSpec)

/-- ITS FALSE NEIGHBOUR: 'it returns false'. Refute it at one input. -/
def codecEncodesWrong : ChangeSpec := { name := "codecEncodes", fn := fun _ => fun
  | [d1, d2] => { results := [.lit (.bool false)], args := [d1, d2] }
  | _ => none }
def CodecEncodesWrongFalsely : Prop := codecEncodesRow.holds Try.pinned (OpenSpec.ofChange codecEncodesWrong)

/-- 'peloruslaw08.IvSets': WHATEVER THE INPUT: true; the input reads as it did. -/
def ivSetsSpec : ChangeSpec := { name := "ivSets", fn := fun _ => fun
  | [d] => { results := [.lit (.bool true)], args := [d] }
  | _ => none }
def ivSetsRow : OpenClaim := { program := "ytakajahogjeiaaa", sum := "7e9042d17cdfd0645a4c829c4008ccd3593c8d48f058ccedbb5038cbb112ca64", func := "pelorus/peloruslaw08.IvSets", spec := "ivSets", apart := false }
def IvSetsSaid : Prop := ivSetsRow.holds Try.pinned (OpenSpec.ofChange ivSetsSpec)

/-- ITS FALSE NEIGHBOUR: 'it returns false'. Refute it at one input. -/
def ivSetsWrong : ChangeSpec := { name := "ivSets", fn := fun _ => fun
  | [d] => { results := [.lit (.bool false)], args := [d] }
  | _ => none }
def IvSetsWrongFalsely : Prop := ivSetsRow.holds Try.pinned (OpenSpec.ofChange ivSetsWrong)

/-- 'peloruslaw08.IvHas': WHATEVER THE INPUT: true; the input reads as it did. -/
def ivHasSpec : ChangeSpec := { name := "ivHas", fn := fun _ => fun
  | [d1, d2, d3] => { results := [.lit (.bool true)], args := [d1, d2, d3] }
  | _ => none }
def ivHasRow : OpenClaim := { program := "ytakajahogjeiaaa", sum := "7e9042d17cdfd0645a4c829c4008ccd3593c8d48f058ccedbb5038cbb112ca64", func := "pelorus/peloruslaw08.IvHas", spec := "ivHas", apart := false }
def IvHasSaid : Prop := ivHasRow.holds Try.pinned (OpenSpec.ofChange ivHasSpec)

/-- ITS FALSE NEIGHBOUR: 'it returns false'. Refute it at one input. -/
def ivHasWrong : ChangeSpec := { name := "ivHas", fn := fun _ => fun
  | [d1, d2, d3] => { results := [.lit (.bool false)], args := [d1, d2, d3] }
  | _ => none }
def IvHasWrongFalsely : Prop := ivHasRow.holds Try.pinned (OpenSpec.ofChange ivHasWrong)

/-- 'peloruslaw08.IvOrder': WHATEVER THE INPUT: true; the input reads as it did. -/
def ivOrderSpec : ChangeSpec := { name := "ivOrder", fn := fun _ => fun
  | [d1, d2] => { results := [.lit (.bool true)], args := [d1, d2] }
  | _ => none }
def ivOrderRow : OpenClaim := { program := "ytakajahogjeiaaa", sum := "7e9042d17cdfd0645a4c829c4008ccd3593c8d48f058ccedbb5038cbb112ca64", func := "pelorus/peloruslaw08.IvOrder", spec := "ivOrder", apart := false }
def IvOrderSaid : Prop := ivOrderRow.holds Try.pinned (OpenSpec.ofChange ivOrderSpec)

/-- ITS FALSE NEIGHBOUR: 'it returns false'. Refute it at one input. -/
def ivOrderWrong : ChangeSpec := { name := "ivOrder", fn := fun _ => fun
  | [d1, d2] => { results := [.lit (.bool false)], args := [d1, d2] }
  | _ => none }
def IvOrderWrongFalsely : Prop := ivOrderRow.holds Try.pinned (OpenSpec.ofChange ivOrderWrong)

/-- 'peloruslaw08.IvMakes': WHATEVER THE INPUT: true; the input reads as it did. -/
def ivMakesSpec : ChangeSpec := { name := "ivMakes", fn := fun _ => fun
  | [d1, d2, d3, d4] => { results := [.lit (.bool true)], args := [d1, d2, d3, d4] }
  | _ => none }
def ivMakesRow : OpenClaim := { program := "ytakajahogjeiaaa", sum := "7e9042d17cdfd0645a4c829c4008ccd3593c8d48f058ccedbb5038cbb112ca64", func := "pelorus/peloruslaw08.IvMakes", spec := "ivMakes", apart := false }
def IvMakesSaid : Prop := ivMakesRow.holds Try.pinned (OpenSpec.ofChange ivMakesSpec)

/-- ITS FALSE NEIGHBOUR: 'it returns false'. Refute it at one input. -/
def ivMakesWrong : ChangeSpec := { name := "ivMakes", fn := fun _ => fun
  | [d1, d2, d3, d4] => { results := [.lit (.bool false)], args := [d1, d2, d3, d4] }
  | _ => none }
def IvMakesWrongFalsely : Prop := ivMakesRow.holds Try.pinned (OpenSpec.ofChange ivMakesWrong)

/- THE SECOND FORM. 'bulk': how many values and letters a reading holds, each counted each time it is reached (what is shared counts as often as it is met; a slice's spare places count too). A statement '..UptoSaid' is the law's where the arguments, and the package variables that the reading takes, are together of bulk at most 1048576: NARROWER than '..Said'. Prove '..Said' where nothing that the law and all that it calls make is longer than what came in: it says more and counts as full. Else prove '..UptoSaid'. A law counts once. -/
mutual
def uptoBulk {H : Type} : DataW H → Nat
  | .lit (.string bytes) => bytes.length + 1
  | .lit _ => 1
  | .nil => 1
  | .ptr d => uptoBulk d + 1
  | .slice elems spare => uptoBulkAll elems + uptoBulkAll spare + 1
  | .agg parts => uptoBulkAll parts + 1
  | .iface _ d => uptoBulk d + 1
  | .map entries => uptoBulkEntries entries + 1
  | .held _ => 1
def uptoBulkAll {H : Type} : List (DataW H) → Nat
  | [] => 0
  | d :: r => uptoBulk d + uptoBulkAll r
def uptoBulkEntries {H : Type} : List (Lit × DataW H) → Nat
  | [] => 0
  | x :: r => uptoBulkEntry x + uptoBulkEntries r
def uptoBulkEntry {H : Type} : Lit × DataW H → Nat
  | (.string bytes, d) => bytes.length + uptoBulk d + 1
  | (_, d) => uptoBulk d + 1
 end
def uptoSmall : (H : Type) → List (DataW H) → Bool := fun _ ds => decide (uptoBulkAll ds ≤ 1048576)
def OpenSpec.upto (s : _root_.Go.ChangeSpec) : _root_.Go.OpenSpec := { _root_.Go.OpenSpec.ofChange s with cond := some uptoSmall }

/-- 'peloruslaw21.DegreeTurns', WHERE WHAT IT READS IS OF BULK AT MOST 1048576: true; the input reads as it did. -/
def degreeTurnsUptoRow : OpenClaim := { program := "ytakajahogjeiaaa", sum := "7e9042d17cdfd0645a4c829c4008ccd3593c8d48f058ccedbb5038cbb112ca64", func := "pelorus/peloruslaw21.DegreeTurns", spec := "degreeTurns", unfollowed := true, recurses := true, apart := false, narrowed := true }
def DegreeTurnsUptoSaid : Prop := degreeTurnsUptoRow.holds Try.pinned (OpenSpec.upto degreeTurnsSpec)

/-- 'peloruslaw21.DegreeScales', WHERE WHAT IT READS IS OF BULK AT MOST 1048576: true; the input reads as it did. -/
def degreeScalesUptoRow : OpenClaim := { program := "ytakajahogjeiaaa", sum := "7e9042d17cdfd0645a4c829c4008ccd3593c8d48f058ccedbb5038cbb112ca64", func := "pelorus/peloruslaw21.DegreeScales", spec := "degreeScales", unfollowed := true, recurses := true, apart := false, narrowed := true }
def DegreeScalesUptoSaid : Prop := degreeScalesUptoRow.holds Try.pinned (OpenSpec.upto degreeScalesSpec)

/-- 'peloruslaw21.DegreeBoxes', WHERE WHAT IT READS IS OF BULK AT MOST 1048576: true; the input reads as it did. -/
def degreeBoxesUptoRow : OpenClaim := { program := "ytakajahogjeiaaa", sum := "7e9042d17cdfd0645a4c829c4008ccd3593c8d48f058ccedbb5038cbb112ca64", func := "pelorus/peloruslaw21.DegreeBoxes", spec := "degreeBoxes", unfollowed := true, recurses := true, apart := false, narrowed := true }
def DegreeBoxesUptoSaid : Prop := degreeBoxesUptoRow.holds Try.pinned (OpenSpec.upto degreeBoxesSpec)

/-- 'peloruslaw23.CodecJoins', WHERE WHAT IT READS IS OF BULK AT MOST 1048576: true; the input reads as it did. -/
def codecJoinsUptoRow : OpenClaim := { program := "ytakajahogjeiaaa", sum := "7e9042d17cdfd0645a4c829c4008ccd3593c8d48f058ccedbb5038cbb112ca64", func := "pelorus/peloruslaw23.CodecJoins", spec := "codecJoins", apart := false, narrowed := true }
def CodecJoinsUptoSaid : Prop := codecJoinsUptoRow.holds Try.pinned (OpenSpec.upto codecJoinsSpec)

/-- 'peloruslaw21.DegreeWinds', WHERE WHAT IT READS IS OF BULK AT MOST 1048576: true; the input reads as it did. -/
def degreeWindsUptoRow : OpenClaim := { program := "ytakajahogjeiaaa", sum := "7e9042d17cdfd0645a4c829c4008ccd3593c8d48f058ccedbb5038cbb112ca64", func := "pelorus/peloruslaw21.DegreeWinds", spec := "degreeWinds", unfollowed := true, recurses := true, apart := false, narrowed := true }
def DegreeWindsUptoSaid : Prop := degreeWindsUptoRow.holds Try.pinned (OpenSpec.upto degreeWindsSpec)

/-- 'peloruslaw21.DegreeJoins', WHERE WHAT IT READS IS OF BULK AT MOST 1048576: true; the input reads as it did. -/
def degreeJoinsUptoRow : OpenClaim := { program := "ytakajahogjeiaaa", sum := "7e9042d17cdfd0645a4c829c4008ccd3593c8d48f058ccedbb5038cbb112ca64", func := "pelorus/peloruslaw21.DegreeJoins", spec := "degreeJoins", unfollowed := true, recurses := true, apart := false, narrowed := true }
def DegreeJoinsUptoSaid : Prop := degreeJoinsUptoRow.holds Try.pinned (OpenSpec.upto degreeJoinsSpec)

/-- 'peloruslaw23.CodecEncodes', WHERE WHAT IT READS IS OF BULK AT MOST 1048576: true; the input reads as it did. -/
def codecEncodesUptoRow : OpenClaim := { program := "ytakajahogjeiaaa", sum := "7e9042d17cdfd0645a4c829c4008ccd3593c8d48f058ccedbb5038cbb112ca64", func := "pelorus/peloruslaw23.CodecEncodes", spec := "codecEncodes", apart := false, narrowed := true }
def CodecEncodesUptoSaid : Prop := codecEncodesUptoRow.holds Try.pinned (OpenSpec.upto codecEncodesSpec)

/-- 'peloruslaw08.IvSets', WHERE WHAT IT READS IS OF BULK AT MOST 1048576: true; the input reads as it did. -/
def ivSetsUptoRow : OpenClaim := { program := "ytakajahogjeiaaa", sum := "7e9042d17cdfd0645a4c829c4008ccd3593c8d48f058ccedbb5038cbb112ca64", func := "pelorus/peloruslaw08.IvSets", spec := "ivSets", apart := false, narrowed := true }
def IvSetsUptoSaid : Prop := ivSetsUptoRow.holds Try.pinned (OpenSpec.upto ivSetsSpec)

/-- 'peloruslaw08.IvHas', WHERE WHAT IT READS IS OF BULK AT MOST 1048576: true; the input reads as it did. -/
def ivHasUptoRow : OpenClaim := { program := "ytakajahogjeiaaa", sum := "7e9042d17cdfd0645a4c829c4008ccd3593c8d48f058ccedbb5038cbb112ca64", func := "pelorus/peloruslaw08.IvHas", spec := "ivHas", apart := false, narrowed := true }
def IvHasUptoSaid : Prop := ivHasUptoRow.holds Try.pinned (OpenSpec.upto ivHasSpec)

/-- 'peloruslaw08.IvOrder', WHERE WHAT IT READS IS OF BULK AT MOST 1048576: true; the input reads as it did. -/
def ivOrderUptoRow : OpenClaim := { program := "ytakajahogjeiaaa", sum := "7e9042d17cdfd0645a4c829c4008ccd3593c8d48f058ccedbb5038cbb112ca64", func := "pelorus/peloruslaw08.IvOrder", spec := "ivOrder", apart := false, narrowed := true }
def IvOrderUptoSaid : Prop := ivOrderUptoRow.holds Try.pinned (OpenSpec.upto ivOrderSpec)

/-- 'peloruslaw08.IvMakes', WHERE WHAT IT READS IS OF BULK AT MOST 1048576: true; the input reads as it did. -/
def ivMakesUptoRow : OpenClaim := { program := "ytakajahogjeiaaa", sum := "7e9042d17cdfd0645a4c829c4008ccd3593c8d48f058ccedbb5038cbb112ca64", func := "pelorus/peloruslaw08.IvMakes", spec := "ivMakes", apart := false, narrowed := true }
def IvMakesUptoSaid : Prop := ivMakesUptoRow.holds Try.pinned (OpenSpec.upto ivMakesSpec)

end Rows
end Go.Proofs.Ytakajahogjeiaaa
