/- Arguments opened: a number, an interval, a slice of these. -/
import Derived.Test.YtagojbgmgkkdpaaGreatRows
import Derived.Test.YtagojbgmgkkdpaaGreatSlDef
import Derived.ProofKit
import Derived.OpenShut
import Derived.ChangeOld
import Derived.Lib.SmallJoins
import Derived.Deep.Slices
namespace Go.Proofs.YtagojbgmgkkdpaaGreat.Wk
open Go.ChangeShapes Go.WideShapes Go.ChangeAt Go.RowKit Go.Joins Go.Deep Go.Proofs.Pl
set_option linter.unusedVariables false
set_option linter.unusedSimpArgs false

theorem own : ownKnob Tryz.prog.godebug = none := by kernel_rfl
theorem laidOut : laidOutB Tryz.prog = true := by kernel_rfl
theorem list4 {α : Type} {l : List α} (h : l.length = 4) : ∃ a b c d, l = [a, b, c, d] := by
 match l, h with
 | [a, b, c, d], _ => exact ⟨a, b, c, d, rfl⟩
theorem list9 {α : Type} {l : List α} (h : l.length = 9) : ∃ a0 a1 a2 a3 a4 a5 a6 a7 a8, l = [a0, a1, a2, a3, a4, a5, a6, a7, a8] := by
 match l, h with
 | [a0, a1, a2, a3, a4, a5, a6, a7, a8], _ => exact ⟨a0, a1, a2, a3, a4, a5, a6, a7, a8, rfl⟩
theorem cells_num : Tryz.prog.cellsOf 37 = 4 := by kernel_rfl
theorem cells_iv : Tryz.prog.cellsOf 39 = 9 := by kernel_rfl
theorem cells_int : Tryz.prog.cellsOf 3 = 1 := by kernel_rfl
theorem cells_bool : Tryz.prog.cellsOf 4 = 1 := by kernel_rfl
theorem cells_u64 : Tryz.prog.cellsOf 35 = 1 := by kernel_rfl

def WfN (x : Num) : Prop := (Lit.int .i64 x.k).wf = true ∧ (Lit.int .u64 x.m).wf = true ∧ (Lit.int .i64 x.e).wf = true
def WfI (x : Iv) : Prop := WfN x.lo ∧ WfN x.hi
theorem wf_u64 {m : Int} (h : (Lit.int .u64 m).wf = true) : 0 ≤ m ∧ m < 2 ^ 64 := by
 simp [Lit.wf, IntKind.min, IntKind.max, IntKind.signed, IntKind.bits] at h
 omega
section
variable {H : Type} {enc : TypeId × Value → H} {w : World} {base : Nat} {spare : Nat → Bool} {held : Bool}
theorem trodNum {fuel : Nat} {cs : List Value} {x : DataW H × List MemPlace} (h : DataW.trod enc Tryz.prog w base spare held fuel 37 cs = some x) :
  ∃ y : Num, cs = [.int .i64 y.k, .bool y.n, .int .u64 y.m, .int .i64 y.e] ∧ WfN y := by
 obtain ⟨xs, n, hn, hx, hlen, hxl, hf⟩ := DataW.trod_struct Tryz.underlying37 h
 rw [cells_num] at hlen
 obtain ⟨c0, c1, c2, c3, rfl⟩ := list4 hlen
 obtain ⟨y0, y1, y2, y3, rfl⟩ := list4 (show xs.length = 4 from hxl)
 have h0 := hf 0 _ rfl
 have h1 := hf 1 _ rfl
 have h2 := hf 2 _ rfl
 have h3 := hf 3 _ rfl
 simp only [cells_int, cells_bool, cells_u64, List.drop_zero, List.drop_succ_cons, List.take_succ_cons, List.take_zero, List.getElem?_cons_zero, List.getElem?_cons_succ, List.getElem_toArray, List.getElem_cons_zero, List.getElem_cons_succ] at h0 h1 h2 h3
 obtain ⟨a0, e0, _, w0⟩ := DataW.trod_int Tryz.underlying3 h0
 obtain ⟨a1, e1, _⟩ := DataW.trod_bool Tryz.underlying4 h1
 obtain ⟨a2, e2, _, w2⟩ := DataW.trod_int Tryz.underlying35 h2
 obtain ⟨a3, e3, _, w3⟩ := DataW.trod_int Tryz.underlying3 h3
 cases e0; cases e1; cases e2; cases e3
 exact ⟨⟨a0, a1, a2, a3⟩, rfl, w0, w2, w3⟩
theorem trodIv {fuel : Nat} {cs : List Value} {x : DataW H × List MemPlace} (h : DataW.trod enc Tryz.prog w base spare held fuel 39 cs = some x) :
  ∃ y : Iv, cs = [.bool y.emp, .int .i64 y.lo.k, .bool y.lo.n, .int .u64 y.lo.m, .int .i64 y.lo.e, .int .i64 y.hi.k, .bool y.hi.n, .int .u64 y.hi.m, .int .i64 y.hi.e] ∧ WfI y := by
 obtain ⟨xs, n, hn, hx, hlen, hxl, hf⟩ := DataW.trod_struct Tryz.underlying39 h
 rw [cells_iv] at hlen
 obtain ⟨c0, c1, c2, c3, c4, c5, c6, c7, c8, rfl⟩ := list9 hlen
 obtain ⟨y0, y1, y2, rfl⟩ : ∃ a b c, xs = [a, b, c] := by
  match xs, (show xs.length = 3 from hxl) with
  | [a, b, c], _ => exact ⟨a, b, c, rfl⟩
 have h0 := hf 0 _ rfl
 have h1 := hf 1 _ rfl
 have h2 := hf 2 _ rfl
 simp only [cells_bool, cells_num, List.drop_zero, List.drop_succ_cons, List.take_succ_cons, List.take_zero, List.getElem?_cons_zero, List.getElem?_cons_succ, List.getElem_toArray, List.getElem_cons_zero, List.getElem_cons_succ] at h0 h1 h2
 obtain ⟨a0, e0, _⟩ := DataW.trod_bool Tryz.underlying4 h0
 obtain ⟨u, e1, w1⟩ := trodNum h1
 obtain ⟨v, e2, w2⟩ := trodNum h2
 cases e0; cases e1; cases e2
 exact ⟨⟨a0, u, v⟩, rfl, w1, w2⟩
set_option maxRecDepth 100000 in
theorem openNum {r : Reach} {b0 : Nat} {v : Value} {d : DataW H} {p : List MemPlace} (hv : Value.okWide Tryz.prog w r b0 37 v) (h : DataW.Trod enc Tryz.prog w base spare held 37 v d p) :
  ∃ y : Num, v = .agg #[.int .i64 (y).k, .bool (y).n, .int .u64 (y).m, .int .i64 (y).e] ∧ WfN y := by
 obtain ⟨cs, rfl, -⟩ := okWide_struct Tryz.underlying37 hv
 obtain ⟨fuel, hf⟩ := h
 simp only [Value.cells] at hf
 obtain ⟨y, e, hy⟩ := trodNum hf
 refine ⟨y, ?_, hy⟩
 obtain ⟨l⟩ := cs
 simp only at e
 rw [e]
set_option maxRecDepth 100000 in
theorem openIv {r : Reach} {b0 : Nat} {v : Value} {d : DataW H} {p : List MemPlace} (hv : Value.okWide Tryz.prog w r b0 39 v) (h : DataW.Trod enc Tryz.prog w base spare held 39 v d p) :
  ∃ y : Iv, v = .agg #[.bool (y).emp, .int .i64 ((y).lo).k, .bool ((y).lo).n, .int .u64 ((y).lo).m, .int .i64 ((y).lo).e, .int .i64 ((y).hi).k, .bool ((y).hi).n, .int .u64 ((y).hi).m, .int .i64 ((y).hi).e] ∧ WfI y := by
 obtain ⟨cs, rfl, -⟩ := okWide_struct Tryz.underlying39 hv
 obtain ⟨fuel, hf⟩ := h
 simp only [Value.cells] at hf
 obtain ⟨y, e, hy⟩ := trodIv hf
 refine ⟨y, ?_, hy⟩
 obtain ⟨l⟩ := cs
 simp only at e
 rw [e]
end
end Go.Proofs.YtagojbgmgkkdpaaGreat.Wk
