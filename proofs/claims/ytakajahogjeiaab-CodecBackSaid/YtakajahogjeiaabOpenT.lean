/- Arguments opened: a slice of ops, a tube. -/
import Derived.Test.YtakajahogjeiaabOpenO
import Derived.Test.YtakajahogjeiaabTubA
namespace Go.Proofs.Ytakajahogjeiaab.Wk
open Go.ChangeShapes Go.WideShapes Go.ChangeAt Go.RowKit Go.Joins Go.Deep Go.Proofs.Pl
set_option linter.unusedVariables false
set_option linter.unusedSimpArgs false

theorem WfN.u {x : Num} (h : WfN x) : U64 x.m := wf_u64 h.2.1
theorem WfI.u {x : Iv} (h : WfI x) : U64I x := ⟨h.1.u, h.2.u⟩
def U64S (x : Slc) : Prop := U64 x.e.m ∧ U64I x.a ∧ U64I x.o
theorem cells_slc : Try.prog.cellsOf 88 = 22 := by kernel_rfl
theorem cells_slt : Try.prog.cellsOf 32 = 1 := by kernel_rfl
theorem cells_tb : Try.prog.cellsOf 34 = 14 := by kernel_rfl
theorem list3 {α : Type} {l : List α} (h : l.length = 3) : ∃ a b c, l = [a, b, c] := by
  match l, h with
  | [a, b, c], _ => exact ⟨a, b, c, rfl⟩
instance : Inhabited Slc := ⟨⟨⟨0, false, 0, 0⟩, noneI, noneI⟩⟩
theorem split3 (cs : List Value) (p q r : Nat) (h : cs.length = p + q + r) : cs = (cs.drop 0).take p ++ ((cs.drop p).take q ++ (cs.drop (p + q)).take r) := by
  have e3 : (cs.drop (p + q)).take r = cs.drop (p + q) := List.take_of_length_le (by simp; omega)
  have e2 : (cs.drop p).take q ++ cs.drop (p + q) = cs.drop p := by
    have := List.take_append_drop q (cs.drop p)
    rwa [List.drop_drop] at this
  rw [e3, e2, List.drop_zero]
  exact (List.take_append_drop p cs).symm
section
variable {H : Type} {enc : TypeId × Value → H} {w : World} {base : Nat} {spare : Nat → Bool} {held : Bool}
theorem trodOpU {fuel : Nat} {cs : List Value} {x : DataW H × List MemPlace} (h : DataW.trod enc Try.prog w base spare held fuel 82 cs = some x) : ∃ y : Op, cs = opCells y ∧ U64O y := by
  obtain ⟨xs, n, hn, hx, hlen, hxl, hf⟩ := DataW.trod_struct Try.underlying82 h
  rw [cells_op] at hlen
  obtain ⟨y0, y1, y2, y3, y4, rfl⟩ := list5 (show xs.length = 5 from hxl)
  have h0 := hf 0 _ rfl
  have h1 := hf 1 _ rfl
  have h2 := hf 2 _ rfl
  have h3 := hf 3 _ rfl
  have h4 := hf 4 _ rfl
  simp only [cells_int, cells_num, cells_iv, List.getElem_toArray, List.getElem_cons_zero, List.getElem_cons_succ] at h0 h1 h2 h3 h4
  have hs := split5 cs hlen
  obtain ⟨k0, e0, _, _⟩ := DataW.trod_int Try.underlying3 h0
  obtain ⟨t, e1, w1⟩ := trodNum h1
  obtain ⟨a, e2, w2⟩ := trodIv h2
  obtain ⟨b, e3, w3⟩ := trodIv h3
  obtain ⟨c, e4, w4⟩ := trodIv h4
  rw [e0, e1, e2, e3, e4] at hs
  exact ⟨⟨k0, t, a, b, c⟩, hs, w1.u, w2.u, w3.u, w4.u⟩
set_option maxRecDepth 100000 in
theorem openSlOU {r : Reach} {b0 : Nat} {v : Value} {d : DataW H} {p : List MemPlace} (hv : Value.okWide Try.prog w r b0 43 v) (h : DataW.Trod enc Try.prog w base spare held 43 v d p) :
    ∃ (A : Option Addr) (n c : Nat) (xs : List Op), v = .slice A n c ∧ (SlO w w.heap.size A n xs ∧ ∀ x ∈ xs, U64O x) := by
  obtain ⟨a0, len0, cap0, rfl⟩ := okWide_slice Try.underlying43 hv
  obtain ⟨fuel, hf⟩ := h
  simp only [Value.cells] at hf
  rcases open_slice Try.underlying43 hf with ⟨hcs, _⟩ | ⟨a, len, cap, m, n, D, Pl, hcs, hb, hl, hm, hmm, _, hx⟩
  · simp at hcs
    obtain ⟨rfl, rfl, rfl⟩ := hcs
    exact ⟨none, 0, 0, [], rfl, ⟨rfl, fun h => absurd h (by omega)⟩, fun x hx => by simp at hx⟩
  · simp at hcs
    obtain ⟨rfl, rfl, rfl⟩ := hcs
    have hlm : len0 ≤ m := by rw [hmm]; split <;> omega
    rw [cells_op] at hx
    obtain ⟨Y, hY⟩ := choose_lt (α := Op) (n := len0) (p := fun i y => (∀ j, j < 32 → w.cell? ((a.add (i * 32)).add j) = (opCells y)[j]?) ∧ U64O y) (fun i hi => by
      obtain ⟨cs', h1, h2⟩ := hx i (by omega)
      obtain ⟨_, _, h3⟩ := World.cells?_some h1
      obtain ⟨y, rfl, wy⟩ := trodOpU h2
      exact ⟨y, h3, wy⟩)
    obtain ⟨b, off, spot⟩ := a
    refine ⟨some ⟨b, off, spot⟩, len0, cap0, (List.range len0).map Y, rfl, ⟨by simp, fun hn => ?_⟩, ?_⟩
    · have h0 := (hY 0 hn).1 0 (by omega)
      have h0' : w.cell? (((⟨b, off, spot⟩ : Addr).add (0 * 32)).add 0) = some (.int .i64 (Y 0).k) := h0
      have hs : spot = none := by simpa [Addr.add] using World.cell?_spot h0'
      subst hs
      have hlt := World.block_lt_of_cell? w _ h0'
      refine ⟨b, off, rfl, hlt, fun i x hi j u hu => ?_⟩
      obtain ⟨hi1, hi2⟩ := List.getElem?_eq_some_iff.1 hi
      have hi3 : i < len0 := by simpa using hi1
      have hi4 : Y i = x := by simpa using hi2
      have hj : j < 32 := (List.getElem?_eq_some_iff.1 hu).1
      have g := (hY i hi3).1 j hj
      rw [hi4, addAtO, addAtO, hu] at g
      exact g
    · intro x hx'
      simp only [List.mem_map, List.mem_range] at hx'
      obtain ⟨i, hi, rfl⟩ := hx'
      exact (hY i hi).2

theorem trodSlc {fuel : Nat} {cs : List Value} {x : DataW H × List MemPlace} (h : DataW.trod enc Try.prog w base spare held fuel 88 cs = some x) : ∃ y : Slc, cs = slcCells y ∧ U64S y := by
  obtain ⟨xs, n, hn, hx, hlen, hxl, hf⟩ := DataW.trod_struct Try.underlying88 h
  rw [cells_slc] at hlen
  obtain ⟨y0, y1, y2, rfl⟩ := list3 (show xs.length = 3 from hxl)
  have h0 := hf 0 _ rfl
  have h1 := hf 1 _ rfl
  have h2 := hf 2 _ rfl
  simp only [cells_num, cells_iv, List.getElem_toArray, List.getElem_cons_zero, List.getElem_cons_succ] at h0 h1 h2
  have hs := split3 cs 4 9 9 hlen
  obtain ⟨t, e1, w1⟩ := trodNum h0
  obtain ⟨a, e2, w2⟩ := trodIv h1
  obtain ⟨b, e3, w3⟩ := trodIv h2
  rw [e1, e2, e3] at hs
  exact ⟨⟨t, a, b⟩, hs, w1.u, w2.u, w3.u⟩
/-- the cells of a field that is a slice of slices -/
theorem trodSlt {fuel : Nat} {cs : List Value} {x : DataW H × List MemPlace} (h : DataW.trod enc Try.prog w base spare held fuel 32 cs = some x) :
    ∃ (A : Option Addr) (n c : Nat) (xs : List Slc), cs = [.slice A n c] ∧ (SlT w w.heap.size A n xs ∧ ∀ x ∈ xs, U64S x) := by
  rcases open_slice Try.underlying32 h with ⟨hcs, _⟩ | ⟨a, len, cap, m, n, D, Pl, hcs, hb, hl, hm, hmm, _, hx⟩
  · exact ⟨none, 0, 0, [], hcs, ⟨rfl, fun h => absurd h (by omega)⟩, fun x hx => by simp at hx⟩
  · have hlm : len ≤ m := by rw [hmm]; split <;> omega
    rw [cells_slc] at hx
    obtain ⟨Y, hY⟩ := choose_lt (α := Slc) (n := len) (p := fun i y => (∀ j, j < 22 → w.cell? ((a.add (i * 22)).add j) = (slcCells y)[j]?) ∧ U64S y) (fun i hi => by
      obtain ⟨cs', h1, h2⟩ := hx i (by omega)
      obtain ⟨_, _, h3⟩ := World.cells?_some h1
      obtain ⟨y, rfl, wy⟩ := trodSlc h2
      exact ⟨y, h3, wy⟩)
    obtain ⟨b, off, spot⟩ := a
    refine ⟨some ⟨b, off, spot⟩, len, cap, (List.range len).map Y, hcs, ⟨by simp, fun hn => ?_⟩, ?_⟩
    · have h0 := (hY 0 hn).1 0 (by omega)
      have h0' : w.cell? (((⟨b, off, spot⟩ : Addr).add (0 * 22)).add 0) = some (.int .i64 (Y 0).e.k) := h0
      have hs : spot = none := by simpa [Addr.add] using World.cell?_spot h0'
      subst hs
      have hlt := World.block_lt_of_cell? w _ h0'
      refine ⟨b, off, rfl, hlt, fun i x hi j u hu => ?_⟩
      obtain ⟨hi1, hi2⟩ := List.getElem?_eq_some_iff.1 hi
      have hi3 : i < len := by simpa using hi1
      have hi4 : Y i = x := by simpa using hi2
      have hj : j < 22 := (List.getElem?_eq_some_iff.1 hu).1
      have g := (hY i hi3).1 j hj
      rw [hi4, addAtO, addAtO, hu] at g
      exact g
    · intro x hx'
      simp only [List.mem_map, List.mem_range] at hx'
      obtain ⟨i, hi, rfl⟩ := hx'
      exact (hY i hi).2
set_option maxRecDepth 100000 in
theorem openTb {r : Reach} {b0 : Nat} {v : Value} {d : DataW H} {p : List MemPlace} (hv : Value.okWide Try.prog w r b0 34 v) (h : DataW.Trod enc Try.prog w base spare held 34 v d p) :
    ∃ (s : Num) (i : Iv) (A : Option Addr) (n c : Nat) (xs : List Slc), v = .agg #[.int .i64 s.k, .bool s.n, .int .u64 s.m, .int .i64 s.e, .bool i.emp, .int .i64 i.lo.k, .bool i.lo.n, .int .u64 i.lo.m, .int .i64 i.lo.e, .int .i64 i.hi.k, .bool i.hi.n, .int .u64 i.hi.m, .int .i64 i.hi.e, .slice A n c] ∧ (U64 s.m ∧ U64I i ∧ SlT w w.heap.size A n xs ∧ ∀ x ∈ xs, U64S x) := by
  obtain ⟨cs, rfl, -⟩ := okWide_struct Try.underlying34 hv
  obtain ⟨fuel, hf⟩ := h
  simp only [Value.cells] at hf
  obtain ⟨xs, n, hn, hx, hlen, hxl, hf⟩ := DataW.trod_struct Try.underlying34 hf
  rw [cells_tb] at hlen
  obtain ⟨y0, y1, y2, rfl⟩ := list3 (show xs.length = 3 from hxl)
  have h0 := hf 0 _ rfl
  have h1 := hf 1 _ rfl
  have h2 := hf 2 _ rfl
  simp only [cells_num, cells_iv, cells_slt, List.getElem_toArray, List.getElem_cons_zero, List.getElem_cons_succ] at h0 h1 h2
  have hs := split3 cs.toList 4 9 1 hlen
  obtain ⟨t, e1, w1⟩ := trodNum h0
  obtain ⟨a, e2, w2⟩ := trodIv h1
  obtain ⟨A, m, c, ys, e3, w3, w4⟩ := trodSlt h2
  rw [e1, e2, e3] at hs
  refine ⟨t, a, A, m, c, ys, ?_, w1.u, w2.u, w3, w4⟩
  obtain ⟨l⟩ := cs
  simp only at hs
  rw [hs]
  rfl
end
end Go.Proofs.Ytakajahogjeiaab.Wk
