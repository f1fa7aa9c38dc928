/- Arguments opened: a number, an interval, a slice of these. -/
import Derived.Test.YteabdeohhmbclaaRows
import Derived.Test.YteabdeohhmbclaaBsAw
import Derived.ProofKit
import Derived.OpenShut
import Derived.ChangeOld
import Derived.Lib.SmallJoins
import Derived.Deep.Slices
import Derived.Test.YteabdeohhmbclaaPvXw
import Derived.Test.YteabdeohhmbclaaMvAw
namespace Go.Proofs.Yteabdeohhmbclaa.Wk
open Go.ChangeShapes Go.WideShapes Go.ChangeAt Go.RowKit Go.Joins Go.Deep Go.Proofs.Pl
set_option linter.unusedVariables false
set_option linter.unusedSimpArgs false

theorem own : ownKnob Try.prog.godebug = none := by kernel_rfl
theorem laidOut : laidOutB Try.prog = true := by kernel_rfl
theorem list4 {α : Type} {l : List α} (h : l.length = 4) : ∃ a b c d, l = [a, b, c, d] := by
 match l, h with
 | [a, b, c, d], _ => exact ⟨a, b, c, d, rfl⟩
theorem list9 {α : Type} {l : List α} (h : l.length = 9) : ∃ a0 a1 a2 a3 a4 a5 a6 a7 a8, l = [a0, a1, a2, a3, a4, a5, a6, a7, a8] := by
 match l, h with
 | [a0, a1, a2, a3, a4, a5, a6, a7, a8], _ => exact ⟨a0, a1, a2, a3, a4, a5, a6, a7, a8, rfl⟩
theorem cells_num : Try.prog.cellsOf 24 = 4 := by kernel_rfl
theorem cells_iv : Try.prog.cellsOf 26 = 9 := by kernel_rfl
theorem cells_int : Try.prog.cellsOf 3 = 1 := by kernel_rfl
theorem cells_bool : Try.prog.cellsOf 4 = 1 := by kernel_rfl
theorem cells_u64 : Try.prog.cellsOf 22 = 1 := by kernel_rfl

def WfN (x : Num) : Prop := (Lit.int .i64 x.k).wf = true ∧ (Lit.int .u64 x.m).wf = true ∧ (Lit.int .i64 x.e).wf = true
def WfI (x : Iv) : Prop := WfN x.lo ∧ WfN x.hi
theorem wf_u64 {m : Int} (h : (Lit.int .u64 m).wf = true) : 0 ≤ m ∧ m < 2 ^ 64 := by
 simp [Lit.wf, IntKind.min, IntKind.max, IntKind.signed, IntKind.bits] at h
 omega
section
variable {H : Type} {enc : TypeId × Value → H} {w : World} {base : Nat} {spare : Nat → Bool} {held : Bool}
theorem trodNum {fuel : Nat} {cs : List Value} {x : DataW H × List MemPlace} (h : DataW.trod enc Try.prog w base spare held fuel 24 cs = some x) :
  ∃ y : Num, cs = [.int .i64 y.k, .bool y.n, .int .u64 y.m, .int .i64 y.e] ∧ WfN y := by
 obtain ⟨xs, n, hn, hx, hlen, hxl, hf⟩ := DataW.trod_struct Try.underlying24 h
 rw [cells_num] at hlen
 obtain ⟨c0, c1, c2, c3, rfl⟩ := list4 hlen
 obtain ⟨y0, y1, y2, y3, rfl⟩ := list4 (show xs.length = 4 from hxl)
 have h0 := hf 0 _ rfl
 have h1 := hf 1 _ rfl
 have h2 := hf 2 _ rfl
 have h3 := hf 3 _ rfl
 simp only [cells_int, cells_bool, cells_u64, List.drop_zero, List.drop_succ_cons, List.take_succ_cons, List.take_zero, List.getElem?_cons_zero, List.getElem?_cons_succ, List.getElem_toArray, List.getElem_cons_zero, List.getElem_cons_succ] at h0 h1 h2 h3
 obtain ⟨a0, e0, _, w0⟩ := DataW.trod_int Try.underlying3 h0
 obtain ⟨a1, e1, _⟩ := DataW.trod_bool Try.underlying4 h1
 obtain ⟨a2, e2, _, w2⟩ := DataW.trod_int Try.underlying22 h2
 obtain ⟨a3, e3, _, w3⟩ := DataW.trod_int Try.underlying3 h3
 cases e0; cases e1; cases e2; cases e3
 exact ⟨⟨a0, a1, a2, a3⟩, rfl, w0, w2, w3⟩
theorem trodIv {fuel : Nat} {cs : List Value} {x : DataW H × List MemPlace} (h : DataW.trod enc Try.prog w base spare held fuel 26 cs = some x) :
  ∃ y : Iv, cs = [.bool y.emp, .int .i64 y.lo.k, .bool y.lo.n, .int .u64 y.lo.m, .int .i64 y.lo.e, .int .i64 y.hi.k, .bool y.hi.n, .int .u64 y.hi.m, .int .i64 y.hi.e] ∧ WfI y := by
 obtain ⟨xs, n, hn, hx, hlen, hxl, hf⟩ := DataW.trod_struct Try.underlying26 h
 rw [cells_iv] at hlen
 obtain ⟨c0, c1, c2, c3, c4, c5, c6, c7, c8, rfl⟩ := list9 hlen
 obtain ⟨y0, y1, y2, rfl⟩ : ∃ a b c, xs = [a, b, c] := by
  match xs, (show xs.length = 3 from hxl) with
  | [a, b, c], _ => exact ⟨a, b, c, rfl⟩
 have h0 := hf 0 _ rfl
 have h1 := hf 1 _ rfl
 have h2 := hf 2 _ rfl
 simp only [cells_bool, cells_num, List.drop_zero, List.drop_succ_cons, List.take_succ_cons, List.take_zero, List.getElem?_cons_zero, List.getElem?_cons_succ, List.getElem_toArray, List.getElem_cons_zero, List.getElem_cons_succ] at h0 h1 h2
 obtain ⟨a0, e0, _⟩ := DataW.trod_bool Try.underlying4 h0
 obtain ⟨u, e1, w1⟩ := trodNum h1
 obtain ⟨v, e2, w2⟩ := trodNum h2
 cases e0; cases e1; cases e2
 exact ⟨⟨a0, u, v⟩, rfl, w1, w2⟩
set_option maxRecDepth 100000 in
theorem openNum {r : Reach} {b0 : Nat} {v : Value} {d : DataW H} {p : List MemPlace} (hv : Value.okWide Try.prog w r b0 24 v) (h : DataW.Trod enc Try.prog w base spare held 24 v d p) :
  ∃ y : Num, v = .agg #[.int .i64 (y).k, .bool (y).n, .int .u64 (y).m, .int .i64 (y).e] ∧ WfN y := by
 obtain ⟨cs, rfl, -⟩ := okWide_struct Try.underlying24 hv
 obtain ⟨fuel, hf⟩ := h
 simp only [Value.cells] at hf
 obtain ⟨y, e, hy⟩ := trodNum hf
 refine ⟨y, ?_, hy⟩
 obtain ⟨l⟩ := cs
 simp only at e
 rw [e]
end
end Go.Proofs.Yteabdeohhmbclaa.Wk
namespace Go.Proofs.Yteabdeohhmbclaa.Wk
open Go.ChangeShapes Go.WideShapes Go.ChangeAt Go.RowKit Go.Joins Go.Deep Go.Proofs.Pl
set_option linter.unusedVariables false
set_option linter.unusedSimpArgs false

instance : Inhabited Iv := ⟨noneI⟩
section
variable {H : Type} {enc : TypeId × Value → H} {w : World} {base : Nat} {spare : Nat → Bool} {held : Bool}
end
end Go.Proofs.Yteabdeohhmbclaa.Wk
namespace Go.Proofs.Yteabdeohhmbclaa.Wk
open Go.ChangeShapes Go.WideShapes Go.ChangeAt Go.RowKit Go.Joins Go.Deep Go.Proofs.Pl
set_option linter.unusedVariables false
set_option linter.unusedSimpArgs false

instance : Inhabited Cl := ⟨⟨⟨noneI, noneI⟩, 0⟩⟩
theorem addAtC (b off k : Nat) : (⟨b, off, none⟩ : Addr).add k = ⟨b, off + k, none⟩ := by
 unfold Addr.add
 split
 ·next h => subst h; rfl
 ·simp
section
variable {H : Type} {enc : TypeId × Value → H} {w : World} {base : Nat} {spare : Nat → Bool} {held : Bool}
end
end Go.Proofs.Yteabdeohhmbclaa.Wk
namespace Go.Proofs.Yteabdeohhmbclaa.Wk
open Go.ChangeShapes Go.WideShapes Go.ChangeAt Go.RowKit Go.Joins Go.Deep Go.Proofs.Pl
set_option linter.unusedVariables false
set_option linter.unusedSimpArgs false

theorem cells_slc : Try.prog.cellsOf 55 = 22 := by kernel_rfl
theorem cells_slt : Try.prog.cellsOf 27 = 1 := by kernel_rfl
theorem cells_tb : Try.prog.cellsOf 29 = 14 := by kernel_rfl
theorem list3 {α : Type} {l : List α} (h : l.length = 3) : ∃ a b c, l = [a, b, c] := by
 match l, h with
 | [a, b, c], _ => exact ⟨a, b, c, rfl⟩
instance : Inhabited Slc := ⟨⟨⟨0, false, 0, 0⟩, noneI, noneI⟩⟩
theorem split3 (cs : List Value) (p q r : Nat) (h : cs.length = p + q + r) : cs = (cs.drop 0).take p ++ ((cs.drop p).take q ++ (cs.drop (p + q)).take r) := by
 have e3 : (cs.drop (p + q)).take r = cs.drop (p + q) := List.take_of_length_le (by simp; omega)
 have e2 : (cs.drop p).take q ++ cs.drop (p + q) = cs.drop p := by
  have := List.take_append_drop q (cs.drop p)
  rwa [List.drop_drop] at this
 rw [e3, e2, List.drop_zero]
 exact (List.take_append_drop p cs).symm
theorem wfN_wf {x : Num} (h : WfN x) : Wf x := wf_u64 h.2.1
theorem wfI_wf {x : Iv} (h : WfI x) : WfIv x := ⟨wfN_wf h.1, wfN_wf h.2⟩
section
variable {H : Type} {enc : TypeId × Value → H} {w : World} {base : Nat} {spare : Nat → Bool} {held : Bool}
theorem trodSlc {fuel : Nat} {cs : List Value} {x : DataW H × List MemPlace} (h : DataW.trod enc Try.prog w base spare held fuel 55 cs = some x) : ∃ y : Slc, cs = slcCells y ∧ WfS y := by
 obtain ⟨xs, n, hn, hx, hlen, hxl, hf⟩ := DataW.trod_struct Try.underlying55 h
 rw [cells_slc] at hlen
 obtain ⟨y0, y1, y2, rfl⟩ := list3 (show xs.length = 3 from hxl)
 have h0 := hf 0 _ rfl
 have h1 := hf 1 _ rfl
 have h2 := hf 2 _ rfl
 simp only [cells_num, cells_iv, List.getElem_toArray, List.getElem_cons_zero, List.getElem_cons_succ] at h0 h1 h2
 have hs := split3 cs 4 9 9 hlen
 obtain ⟨t, e1, w1⟩ := trodNum h0
 obtain ⟨a, e2, w2⟩ := trodIv h1
 obtain ⟨b, e3, w3⟩ := trodIv h2
 rw [e1, e2, e3] at hs
 exact ⟨⟨t, a, b⟩, hs, wfN_wf w1, wfI_wf w2, wfI_wf w3⟩
theorem trodSlt {fuel : Nat} {cs : List Value} {x : DataW H × List MemPlace} (h : DataW.trod enc Try.prog w base spare held fuel 27 cs = some x) :
  ∃ (A : Option Addr) (n c : Nat) (xs : List Slc), cs = [.slice A n c] ∧ (SlT w w.heap.size A n xs ∧ ∀ x ∈ xs, WfS x) := by
 rcases open_slice Try.underlying27 h with ⟨hcs, _⟩ | ⟨a, len, cap, m, n, D, Pl, hcs, hb, hl, hm, hmm, _, hx⟩
 ·exact ⟨none, 0, 0, [], hcs, ⟨rfl, fun h => absurd h (by omega)⟩, fun x hx => by simp at hx⟩
 ·have hlm : len ≤ m := by rw [hmm]; split <;> omega
  rw [cells_slc] at hx
  obtain ⟨Y, hY⟩ := choose_lt (α := Slc) (n := len) (p := fun i y => (∀ j, j < 22 → w.cell? ((a.add (i * 22)).add j) = (slcCells y)[j]?) ∧ WfS y) (fun i hi => by
   obtain ⟨cs', h1, h2⟩ := hx i (by omega)
   obtain ⟨_, _, h3⟩ := World.cells?_some h1
   obtain ⟨y, rfl, wy⟩ := trodSlc h2
   exact ⟨y, h3, wy⟩)
  obtain ⟨b, off, spot⟩ := a
  refine ⟨some ⟨b, off, spot⟩, len, cap, (List.range len).map Y, hcs, ⟨by simp, fun hn => ?_⟩, ?_⟩
  ·have h0 := (hY 0 hn).1 0 (by omega)
   have h0' : w.cell? (((⟨b, off, spot⟩ : Addr).add (0 * 22)).add 0) = some (.int .i64 (Y 0).e.k) := h0
   have hs : spot = none := by simpa [Addr.add] using World.cell?_spot h0'
   subst hs
   have hlt := World.block_lt_of_cell? w _ h0'
   refine ⟨b, off, rfl, hlt, fun i x hi j u hu => ?_⟩
   obtain ⟨hi1, hi2⟩ := List.getElem?_eq_some_iff.1 hi
   have hi3 : i < len := by simpa using hi1
   have hi4 : Y i = x := by simpa using hi2
   have hj : j < 22 := (List.getElem?_eq_some_iff.1 hu).1
   have g := (hY i hi3).1 j hj
   rw [hi4, addAtC, addAtC, hu] at g
   exact g
  ·intro x hx'
   simp only [List.mem_map, List.mem_range] at hx'
   obtain ⟨i, hi, rfl⟩ := hx'
   exact (hY i hi).2
set_option maxRecDepth 100000 in
theorem openTb {r : Reach} {b0 : Nat} {v : Value} {d : DataW H} {p : List MemPlace} (hv : Value.okWide Try.prog w r b0 29 v) (h : DataW.Trod enc Try.prog w base spare held 29 v d p) :
  ∃ (s : Num) (i : Iv) (A : Option Addr) (n c : Nat) (xs : List Slc), v = .agg #[.int .i64 s.k, .bool s.n, .int .u64 s.m, .int .i64 s.e, .bool i.emp, .int .i64 i.lo.k, .bool i.lo.n, .int .u64 i.lo.m, .int .i64 i.lo.e, .int .i64 i.hi.k, .bool i.hi.n, .int .u64 i.hi.m, .int .i64 i.hi.e, .slice A n c] ∧ (SlT w w.heap.size A n xs ∧ WfTb s i xs) := by
 obtain ⟨cs, rfl, -⟩ := okWide_struct Try.underlying29 hv
 obtain ⟨fuel, hf⟩ := h
 simp only [Value.cells] at hf
 obtain ⟨xs, n, hn, hx, hlen, hxl, hf⟩ := DataW.trod_struct Try.underlying29 hf
 rw [cells_tb] at hlen
 obtain ⟨y0, y1, y2, rfl⟩ := list3 (show xs.length = 3 from hxl)
 have h0 := hf 0 _ rfl
 have h1 := hf 1 _ rfl
 have h2 := hf 2 _ rfl
 simp only [cells_num, cells_iv, cells_slt, List.getElem_toArray, List.getElem_cons_zero, List.getElem_cons_succ] at h0 h1 h2
 have hs := split3 cs.toList 4 9 1 hlen
 obtain ⟨t, e1, w1⟩ := trodNum h0
 obtain ⟨a, e2, w2⟩ := trodIv h1
 obtain ⟨A, m, c, ys, e3, w3, w4⟩ := trodSlt h2
 rw [e1, e2, e3] at hs
 refine ⟨t, a, A, m, c, ys, ?_, w3, wfN_wf w1, wfI_wf w2, w4⟩
 obtain ⟨l⟩ := cs
 simp only at hs
 rw [hs]
 rfl
end
end Go.Proofs.Yteabdeohhmbclaa.Wk
