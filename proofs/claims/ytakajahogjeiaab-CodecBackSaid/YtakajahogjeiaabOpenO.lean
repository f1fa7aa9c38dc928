/- Arguments opened: a slice of ops. -/
import Derived.Test.YtakajahogjeiaabOpenD
import Derived.Test.YtakajahogjeiaabCodC
namespace Go.Proofs.Ytakajahogjeiaab.Wk
open Go.ChangeShapes Go.WideShapes Go.ChangeAt Go.RowKit Go.Joins Go.Deep Go.Proofs.Pl
set_option linter.unusedVariables false
set_option linter.unusedSimpArgs false

theorem addAtO (b off k : Nat) : (⟨b, off, none⟩ : Addr).add k = ⟨b, off + k, none⟩ := by
  unfold Addr.add
  split
  · next h => subst h; rfl
  · simp
theorem cells_op : Try.prog.cellsOf 82 = 32 := by kernel_rfl
theorem list5 {α : Type} {l : List α} (h : l.length = 5) : ∃ a b c d e, l = [a, b, c, d, e] := by
  match l, h with
  | [a, b, c, d, e], _ => exact ⟨a, b, c, d, e, rfl⟩
instance : Inhabited Op := ⟨⟨0, ⟨0, false, 0, 0⟩, noneI, noneI, noneI⟩⟩
theorem split5 (cs : List Value) (h : cs.length = 32) : cs = (cs.drop 0).take 1 ++ ((cs.drop 1).take 4 ++ ((cs.drop 5).take 9 ++ ((cs.drop 14).take 9 ++ (cs.drop 23).take 9))) := by
  have e5 : (cs.drop 23).take 9 = cs.drop 23 := List.take_of_length_le (by simp; omega)
  have e4 : (cs.drop 14).take 9 ++ cs.drop 23 = cs.drop 14 := by
    have := List.take_append_drop 9 (cs.drop 14)
    rwa [List.drop_drop] at this
  have e3 : (cs.drop 5).take 9 ++ cs.drop 14 = cs.drop 5 := by
    have := List.take_append_drop 9 (cs.drop 5)
    rwa [List.drop_drop] at this
  have e2 : (cs.drop 1).take 4 ++ cs.drop 5 = cs.drop 1 := by
    have := List.take_append_drop 4 (cs.drop 1)
    rwa [List.drop_drop] at this
  rw [e5, e4, e3, e2, List.drop_zero]
  exact (List.take_append_drop 1 cs).symm
section
variable {H : Type} {enc : TypeId × Value → H} {w : World} {base : Nat} {spare : Nat → Bool} {held : Bool}
theorem trodOp {fuel : Nat} {cs : List Value} {x : DataW H × List MemPlace} (h : DataW.trod enc Try.prog w base spare held fuel 82 cs = some x) : ∃ y : Op, cs = opCells y := by
  obtain ⟨xs, n, hn, hx, hlen, hxl, hf⟩ := DataW.trod_struct Try.underlying82 h
  rw [cells_op] at hlen
  obtain ⟨y0, y1, y2, y3, y4, rfl⟩ := list5 (show xs.length = 5 from hxl)
  have h0 := hf 0 _ rfl
  have h1 := hf 1 _ rfl
  have h2 := hf 2 _ rfl
  have h3 := hf 3 _ rfl
  have h4 := hf 4 _ rfl
  simp only [cells_int, cells_num, cells_iv, List.getElem_toArray, List.getElem_cons_zero, List.getElem_cons_succ] at h0 h1 h2 h3 h4
  have hs := split5 cs hlen
  obtain ⟨k0, e0, _, _⟩ := DataW.trod_int Try.underlying3 h0
  obtain ⟨t, e1, _⟩ := trodNum h1
  obtain ⟨a, e2, _⟩ := trodIv h2
  obtain ⟨b, e3, _⟩ := trodIv h3
  obtain ⟨c, e4, _⟩ := trodIv h4
  rw [e0, e1, e2, e3, e4] at hs
  exact ⟨⟨k0, t, a, b, c⟩, hs⟩
set_option maxRecDepth 100000 in
theorem openSlO {r : Reach} {b0 : Nat} {v : Value} {d : DataW H} {p : List MemPlace} (hv : Value.okWide Try.prog w r b0 43 v) (h : DataW.Trod enc Try.prog w base spare held 43 v d p) :
    ∃ (A : Option Addr) (n c : Nat) (xs : List Op), v = .slice A n c ∧ SlO w w.heap.size A n xs := by
  obtain ⟨a0, len0, cap0, rfl⟩ := okWide_slice Try.underlying43 hv
  obtain ⟨fuel, hf⟩ := h
  simp only [Value.cells] at hf
  rcases open_slice Try.underlying43 hf with ⟨hcs, _⟩ | ⟨a, len, cap, m, n, D, Pl, hcs, hb, hl, hm, hmm, _, hx⟩
  · simp at hcs
    obtain ⟨rfl, rfl, rfl⟩ := hcs
    exact ⟨none, 0, 0, [], rfl, rfl, fun h => absurd h (by omega)⟩
  · simp at hcs
    obtain ⟨rfl, rfl, rfl⟩ := hcs
    have hlm : len0 ≤ m := by rw [hmm]; split <;> omega
    rw [cells_op] at hx
    obtain ⟨Y, hY⟩ := choose_lt (α := Op) (n := len0) (p := fun i y => (∀ j, j < 32 → w.cell? ((a.add (i * 32)).add j) = (opCells y)[j]?)) (fun i hi => by
      obtain ⟨cs', h1, h2⟩ := hx i (by omega)
      obtain ⟨_, _, h3⟩ := World.cells?_some h1
      obtain ⟨y, rfl⟩ := trodOp h2
      exact ⟨y, h3⟩)
    obtain ⟨b, off, spot⟩ := a
    refine ⟨some ⟨b, off, spot⟩, len0, cap0, (List.range len0).map Y, rfl, by simp, fun hn => ?_⟩
    have h0 := (hY 0 hn) 0 (by omega)
    have h0' : w.cell? (((⟨b, off, spot⟩ : Addr).add (0 * 32)).add 0) = some (.int .i64 (Y 0).k) := h0
    have hs : spot = none := by simpa [Addr.add] using World.cell?_spot h0'
    subst hs
    have hlt := World.block_lt_of_cell? w _ h0'
    refine ⟨b, off, rfl, hlt, fun i x hi j u hu => ?_⟩
    obtain ⟨hi1, hi2⟩ := List.getElem?_eq_some_iff.1 hi
    have hi3 : i < len0 := by simpa using hi1
    have hi4 : Y i = x := by simpa using hi2
    have hj : j < 32 := (List.getElem?_eq_some_iff.1 hu).1
    have g := hY i hi3 j hj
    rw [hi4, addAtO, addAtO, hu] at g
    exact g
end
end Go.Proofs.Ytakajahogjeiaab.Wk
