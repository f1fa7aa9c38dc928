/- Walk: peloruslaw08.awake. -/
import Derived.Test.YtagojbgmgkkdpaaGreatOfC
import Derived.Test.YtagojbgmgkkdpaaGreatIvE
import Derived.Test.YtagojbgmgkkdpaaGreatIvC
namespace Go.Proofs.YtagojbgmgkkdpaaGreat.Wk
open Go.RowKit Go.Proofs.Pl Go.Proofs.YtagojbgmgkkdpaaGreatW.PrintLast
set_option linter.unusedSimpArgs false
set_option linter.unusedVariables false

theorem SlI.lit2 {w : World} {g B : Nat} {T : TypeId} {x y : Iv} (h : Blk w g T #[.bool x.emp, .int .i64 x.lo.k, .bool x.lo.n, .int .u64 x.lo.m, .int .i64 x.lo.e, .int .i64 x.hi.k, .bool x.hi.n, .int .u64 x.hi.m, .int .i64 x.hi.e, .bool y.emp, .int .i64 y.lo.k, .bool y.lo.n, .int .u64 y.lo.m, .int .i64 y.lo.e, .int .i64 y.hi.k, .bool y.hi.n, .int .u64 y.hi.m, .int .i64 y.hi.e]) (hB : g < B) :
  SlI w B (some ⟨g, 0, none⟩) 2 [x, y] := by
 refine ⟨rfl, fun _ => ⟨g, 0, rfl, hB, fun i z hz => ?_⟩⟩
 match i, hz with
 | 0, hz =>
  simp only [List.getElem?_cons_zero, Option.some.injEq] at hz
  subst hz
  exact ⟨h.cell 0, h.cell 1, h.cell 2, h.cell 3, h.cell 4, h.cell 5, h.cell 6, h.cell 7, h.cell 8⟩
 | 1, hz =>
  simp only [List.getElem?_cons_succ, List.getElem?_cons_zero, Option.some.injEq] at hz
  subst hz
  exact ⟨h.cell 9, h.cell 10, h.cell 11, h.cell 12, h.cell 13, h.cell 14, h.cell 15, h.cell 16, h.cell 17⟩
 | i + 2, hz => simp at hz

end Go.Proofs.YtagojbgmgkkdpaaGreat.Wk
