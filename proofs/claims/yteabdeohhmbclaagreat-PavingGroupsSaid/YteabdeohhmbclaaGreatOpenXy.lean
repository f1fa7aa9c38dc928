/- Arguments opened: a number, an interval, a slice of these. -/
import Derived.Test.YteabdeohhmbclaaGreatRows
import Derived.Test.YteabdeohhmbclaaGreatBsAy
import Derived.ProofKit
import Derived.OpenShut
import Derived.ChangeOld
import Derived.Lib.SmallJoins
import Derived.Deep.Slices
import Derived.Test.YteabdeohhmbclaaGreatPvXy
namespace Go.Proofs.YteabdeohhmbclaaGreat.Wk
open Go.ChangeShapes Go.WideShapes Go.ChangeAt Go.RowKit Go.Joins Go.Deep Go.Proofs.Pl
set_option linter.unusedVariables false
set_option linter.unusedSimpArgs false

theorem own : ownKnob Tryz.prog.godebug = none := by kernel_rfl
theorem laidOut : laidOutB Tryz.prog = true := by kernel_rfl
theorem list4 {α : Type} {l : List α} (h : l.length = 4) : ∃ a b c d, l = [a, b, c, d] := by
 match l, h with
 | [a, b, c, d], _ => exact ⟨a, b, c, d, rfl⟩
theorem list9 {α : Type} {l : List α} (h : l.length = 9) : ∃ a0 a1 a2 a3 a4 a5 a6 a7 a8, l = [a0, a1, a2, a3, a4, a5, a6, a7, a8] := by
 match l, h with
 | [a0, a1, a2, a3, a4, a5, a6, a7, a8], _ => exact ⟨a0, a1, a2, a3, a4, a5, a6, a7, a8, rfl⟩
theorem cells_num : Tryz.prog.cellsOf 32 = 4 := by kernel_rfl
theorem cells_iv : Tryz.prog.cellsOf 34 = 9 := by kernel_rfl
theorem cells_int : Tryz.prog.cellsOf 3 = 1 := by kernel_rfl
theorem cells_bool : Tryz.prog.cellsOf 4 = 1 := by kernel_rfl
theorem cells_u64 : Tryz.prog.cellsOf 30 = 1 := by kernel_rfl

def WfN (x : Num) : Prop := (Lit.int .i64 x.k).wf = true ∧ (Lit.int .u64 x.m).wf = true ∧ (Lit.int .i64 x.e).wf = true
def WfI (x : Iv) : Prop := WfN x.lo ∧ WfN x.hi
theorem wf_u64 {m : Int} (h : (Lit.int .u64 m).wf = true) : 0 ≤ m ∧ m < 2 ^ 64 := by
 simp [Lit.wf, IntKind.min, IntKind.max, IntKind.signed, IntKind.bits] at h
 omega
section
variable {H : Type} {enc : TypeId × Value → H} {w : World} {base : Nat} {spare : Nat → Bool} {held : Bool}
theorem trodNum {fuel : Nat} {cs : List Value} {x : DataW H × List MemPlace} (h : DataW.trod enc Tryz.prog w base spare held fuel 32 cs = some x) :
  ∃ y : Num, cs = [.int .i64 y.k, .bool y.n, .int .u64 y.m, .int .i64 y.e] ∧ WfN y := by
 obtain ⟨xs, n, hn, hx, hlen, hxl, hf⟩ := DataW.trod_struct Tryz.underlying32 h
 rw [cells_num] at hlen
 obtain ⟨c0, c1, c2, c3, rfl⟩ := list4 hlen
 obtain ⟨y0, y1, y2, y3, rfl⟩ := list4 (show xs.length = 4 from hxl)
 have h0 := hf 0 _ rfl
 have h1 := hf 1 _ rfl
 have h2 := hf 2 _ rfl
 have h3 := hf 3 _ rfl
 simp only [cells_int, cells_bool, cells_u64, List.drop_zero, List.drop_succ_cons, List.take_succ_cons, List.take_zero, List.getElem?_cons_zero, List.getElem?_cons_succ, List.getElem_toArray, List.getElem_cons_zero, List.getElem_cons_succ] at h0 h1 h2 h3
 obtain ⟨a0, e0, _, w0⟩ := DataW.trod_int Tryz.underlying3 h0
 obtain ⟨a1, e1, _⟩ := DataW.trod_bool Tryz.underlying4 h1
 obtain ⟨a2, e2, _, w2⟩ := DataW.trod_int Tryz.underlying30 h2
 obtain ⟨a3, e3, _, w3⟩ := DataW.trod_int Tryz.underlying3 h3
 cases e0; cases e1; cases e2; cases e3
 exact ⟨⟨a0, a1, a2, a3⟩, rfl, w0, w2, w3⟩
theorem trodIv {fuel : Nat} {cs : List Value} {x : DataW H × List MemPlace} (h : DataW.trod enc Tryz.prog w base spare held fuel 34 cs = some x) :
  ∃ y : Iv, cs = [.bool y.emp, .int .i64 y.lo.k, .bool y.lo.n, .int .u64 y.lo.m, .int .i64 y.lo.e, .int .i64 y.hi.k, .bool y.hi.n, .int .u64 y.hi.m, .int .i64 y.hi.e] ∧ WfI y := by
 obtain ⟨xs, n, hn, hx, hlen, hxl, hf⟩ := DataW.trod_struct Tryz.underlying34 h
 rw [cells_iv] at hlen
 obtain ⟨c0, c1, c2, c3, c4, c5, c6, c7, c8, rfl⟩ := list9 hlen
 obtain ⟨y0, y1, y2, rfl⟩ : ∃ a b c, xs = [a, b, c] := by
  match xs, (show xs.length = 3 from hxl) with
  | [a, b, c], _ => exact ⟨a, b, c, rfl⟩
 have h0 := hf 0 _ rfl
 have h1 := hf 1 _ rfl
 have h2 := hf 2 _ rfl
 simp only [cells_bool, cells_num, List.drop_zero, List.drop_succ_cons, List.take_succ_cons, List.take_zero, List.getElem?_cons_zero, List.getElem?_cons_succ, List.getElem_toArray, List.getElem_cons_zero, List.getElem_cons_succ] at h0 h1 h2
 obtain ⟨a0, e0, _⟩ := DataW.trod_bool Tryz.underlying4 h0
 obtain ⟨u, e1, w1⟩ := trodNum h1
 obtain ⟨v, e2, w2⟩ := trodNum h2
 cases e0; cases e1; cases e2
 exact ⟨⟨a0, u, v⟩, rfl, w1, w2⟩
end
end Go.Proofs.YteabdeohhmbclaaGreat.Wk
namespace Go.Proofs.YteabdeohhmbclaaGreat.Wk
open Go.ChangeShapes Go.WideShapes Go.ChangeAt Go.RowKit Go.Joins Go.Deep Go.Proofs.Pl
set_option linter.unusedVariables false
set_option linter.unusedSimpArgs false

instance : Inhabited Iv := ⟨noneI⟩
section
variable {H : Type} {enc : TypeId × Value → H} {w : World} {base : Nat} {spare : Nat → Bool} {held : Bool}
end
end Go.Proofs.YteabdeohhmbclaaGreat.Wk
namespace Go.Proofs.YteabdeohhmbclaaGreat.Wk
open Go.ChangeShapes Go.WideShapes Go.ChangeAt Go.RowKit Go.Joins Go.Deep Go.Proofs.Pl
set_option linter.unusedVariables false
set_option linter.unusedSimpArgs false

theorem cells_pr : Tryz.prog.cellsOf 41 = 18 := by kernel_rfl
theorem cells_cl : Tryz.prog.cellsOf 43 = 19 := by kernel_rfl
theorem cells_int' : Tryz.prog.cellsOf 3 = 1 := by kernel_rfl
theorem cells_iv' : Tryz.prog.cellsOf 34 = 9 := by kernel_rfl
theorem two2 {α : Type} {l : List α} (h : l.length = 2) : ∃ a b, l = [a, b] := by
 match l, h with
 | [a, b], _ => exact ⟨a, b, rfl⟩
instance : Inhabited Cl := ⟨⟨⟨noneI, noneI⟩, 0⟩⟩
theorem split2 (cs : List Value) (p q : Nat) (h : cs.length = p + q) : cs = (cs.drop 0).take p ++ (cs.drop p).take q := by
 have e2 : (cs.drop p).take q = cs.drop p := List.take_of_length_le (by simp; omega)
 rw [e2, List.drop_zero]
 exact (List.take_append_drop p cs).symm
theorem addAtC (b off k : Nat) : (⟨b, off, none⟩ : Addr).add k = ⟨b, off + k, none⟩ := by
 unfold Addr.add
 split
 ·next h => subst h; rfl
 ·simp
section
variable {H : Type} {enc : TypeId × Value → H} {w : World} {base : Nat} {spare : Nat → Bool} {held : Bool}
theorem trodPr {fuel : Nat} {cs : List Value} {x : DataW H × List MemPlace} (h : DataW.trod enc Tryz.prog w base spare held fuel 41 cs = some x) : ∃ y : Pr, cs = prCells y ∧ WfI y.a ∧ WfI y.b := by
 obtain ⟨xs, n, hn, hx, hlen, hxl, hf⟩ := DataW.trod_struct Tryz.underlying41 h
 rw [cells_pr] at hlen
 obtain ⟨y0, y1, rfl⟩ := two2 (show xs.length = 2 from hxl)
 have h0 := hf 0 _ rfl
 have h1 := hf 1 _ rfl
 simp only [cells_iv', List.getElem_toArray, List.getElem_cons_zero, List.getElem_cons_succ] at h0 h1
 have hs := split2 cs 9 9 hlen
 obtain ⟨a, e1, w1⟩ := trodIv h0
 obtain ⟨b, e2, w2⟩ := trodIv h1
 rw [e1, e2] at hs
 exact ⟨⟨a, b⟩, hs, w1, w2⟩
theorem trodCl {fuel : Nat} {cs : List Value} {x : DataW H × List MemPlace} (h : DataW.trod enc Tryz.prog w base spare held fuel 43 cs = some x) : ∃ y : Cl, cs = clCells y ∧ WfI y.p.a ∧ WfI y.p.b := by
 obtain ⟨xs, n, hn, hx, hlen, hxl, hf⟩ := DataW.trod_struct Tryz.underlying43 h
 rw [cells_cl] at hlen
 obtain ⟨y0, y1, rfl⟩ := two2 (show xs.length = 2 from hxl)
 have h0 := hf 0 _ rfl
 have h1 := hf 1 _ rfl
 simp only [cells_pr, cells_int', List.getElem_toArray, List.getElem_cons_zero, List.getElem_cons_succ] at h0 h1
 have hs := split2 cs 18 1 hlen
 obtain ⟨p, e1, w1, w2⟩ := trodPr h0
 obtain ⟨k, e2, _, _⟩ := DataW.trod_int Tryz.underlying3 h1
 rw [e1, e2] at hs
 exact ⟨⟨p, k⟩, hs, w1, w2⟩
set_option maxRecDepth 100000 in
theorem openSlC {r : Reach} {b0 : Nat} {v : Value} {d : DataW H} {p : List MemPlace} (hv : Value.okWide Tryz.prog w r b0 22 v) (h : DataW.Trod enc Tryz.prog w base spare held 22 v d p) :
  ∃ (A : Option Addr) (n c : Nat) (xs : List Cl), v = .slice A n c ∧ (SlC w w.heap.size A n xs ∧ (∀ x ∈ xs, WfI x.p.a ∧ WfI x.p.b) ∧ n ≤ c) := by
 obtain ⟨a0, len0, cap0, rfl⟩ := okWide_slice Tryz.underlying22 hv
 obtain ⟨fuel, hf⟩ := h
 simp only [Value.cells] at hf
 rcases open_slice Tryz.underlying22 hf with ⟨hcs, _⟩ | ⟨a, len, cap, m, n, D, Pl, hcs, hb, hl, hm, hmm, _, hx⟩
 ·simp at hcs
  obtain ⟨rfl, rfl, rfl⟩ := hcs
  exact ⟨none, 0, 0, [], rfl, ⟨rfl, fun h => absurd h (by omega)⟩, fun x hx => (by simp at hx), Nat.le_refl _⟩
 ·simp at hcs
  obtain ⟨rfl, rfl, rfl⟩ := hcs
  have hlm : len0 ≤ m := by rw [hmm]; split <;> omega
  rw [cells_cl] at hx
  obtain ⟨Y, hY⟩ := choose_lt (α := Cl) (n := len0) (p := fun i y => (∀ j, j < 19 → w.cell? ((a.add (i * 19)).add j) = (clCells y)[j]?) ∧ WfI y.p.a ∧ WfI y.p.b) (fun i hi => by
   obtain ⟨cs', h1, h2⟩ := hx i (by omega)
   obtain ⟨_, _, h3⟩ := World.cells?_some h1
   obtain ⟨y, rfl, wy⟩ := trodCl h2
   exact ⟨y, h3, wy⟩)
  obtain ⟨b, off, spot⟩ := a
  refine ⟨some ⟨b, off, spot⟩, len0, cap0, (List.range len0).map Y, rfl, ⟨by simp, fun hn => ?_⟩, ?_, hl⟩
  ·have h0 := (hY 0 hn).1 0 (by omega)
   have h0' : w.cell? (((⟨b, off, spot⟩ : Addr).add (0 * 19)).add 0) = some (.bool (Y 0).p.a.emp) := h0
   have hs : spot = none := by simpa [Addr.add] using World.cell?_spot h0'
   subst hs
   have hlt := World.block_lt_of_cell? w _ h0'
   refine ⟨b, off, rfl, hlt, fun i x hi j u hu => ?_⟩
   obtain ⟨hi1, hi2⟩ := List.getElem?_eq_some_iff.1 hi
   have hi3 : i < len0 := by simpa using hi1
   have hi4 : Y i = x := by simpa using hi2
   have hj : j < 19 := (List.getElem?_eq_some_iff.1 hu).1
   have g := (hY i hi3).1 j hj
   rw [hi4, addAtC, addAtC, hu] at g
   exact g
  ·intro x hx'
   simp only [List.mem_map, List.mem_range] at hx'
   obtain ⟨i, hi, rfl⟩ := hx'
   exact (hY i hi).2
end
end Go.Proofs.YteabdeohhmbclaaGreat.Wk
