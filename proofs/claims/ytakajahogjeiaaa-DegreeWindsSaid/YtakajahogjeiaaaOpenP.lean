/- Arguments opened: a spot, a slice of spots. -/
import Derived.Test.YtakajahogjeiaaaOpenD
import Derived.Test.YtakajahogjeiaaaDegS
namespace Go.Proofs.Ytakajahogjeiaaa.Wk
open Go.ChangeShapes Go.WideShapes Go.ChangeAt Go.RowKit Go.Joins Go.Deep
set_option linter.unusedVariables false
set_option linter.unusedSimpArgs false

theorem addAtP (b off k : Nat) : (⟨b, off, none⟩ : Addr).add k = ⟨b, off + k, none⟩ := by
  unfold Addr.add
  split
  · next h => subst h; rfl
  · simp
theorem list2 {α : Type} {l : List α} (h : l.length = 2) : ∃ a b, l = [a, b] := by
  match l, h with
  | [a, b], _ => exact ⟨a, b, rfl⟩
theorem cells_spot : Try.prog.cellsOf 25 = 2 := by kernel_rfl
section
variable {H : Type} {enc : TypeId × Value → H} {w : World} {base : Nat} {spare : Nat → Bool} {held : Bool}
theorem trodSpot {fuel : Nat} {cs : List Value} {x : DataW H × List MemPlace} (h : DataW.trod enc Try.prog w base spare held fuel 25 cs = some x) :
    ∃ y : Deg.S, cs = [.int .i64 y.1, .int .i64 y.2] ∧ (Lit.int .i64 y.1).wf = true ∧ (Lit.int .i64 y.2).wf = true := by
  obtain ⟨xs, n, hn, hx, hlen, hxl, hf⟩ := DataW.trod_struct Try.underlying25 h
  rw [cells_spot] at hlen
  obtain ⟨c0, c1, rfl⟩ := list2 hlen
  obtain ⟨y0, y1, rfl⟩ := list2 (show xs.length = 2 from hxl)
  have h0 := hf 0 _ rfl
  have h1 := hf 1 _ rfl
  simp only [cells_int, List.drop_zero, List.drop_succ_cons, List.take_succ_cons, List.take_zero, List.getElem?_cons_zero, List.getElem?_cons_succ, List.getElem_toArray, List.getElem_cons_zero, List.getElem_cons_succ] at h0 h1
  obtain ⟨a0, e0, _, w0⟩ := DataW.trod_int Try.underlying3 h0
  obtain ⟨a1, e1, _, w1⟩ := DataW.trod_int Try.underlying3 h1
  cases e0; cases e1
  exact ⟨(a0, a1), rfl, w0, w1⟩
set_option maxRecDepth 100000 in
theorem openSpot {r : Reach} {b0 : Nat} {v : Value} {d : DataW H} {p : List MemPlace} (hv : Value.okWide Try.prog w r b0 25 v) (h : DataW.Trod enc Try.prog w base spare held 25 v d p) :
    ∃ y : Deg.S, v = .agg #[.int .i64 y.1, .int .i64 y.2] ∧ True := by
  obtain ⟨cs, rfl, -⟩ := okWide_struct Try.underlying25 hv
  obtain ⟨fuel, hf⟩ := h
  simp only [Value.cells] at hf
  obtain ⟨y, e, _⟩ := trodSpot hf
  refine ⟨y, ?_, trivial⟩
  obtain ⟨l⟩ := cs
  simp only at e
  rw [e]
set_option maxRecDepth 100000 in
theorem openSlP {r : Reach} {b0 : Nat} {v : Value} {d : DataW H} {p : List MemPlace} (hv : Value.okWide Try.prog w r b0 22 v) (h : DataW.Trod enc Try.prog w base spare held 22 v d p) :
    ∃ (A : Option Addr) (n c : Nat) (xs : List Deg.S), v = .slice A n c ∧ (SlP w w.heap.size A n xs ∧ n ≤ c) := by
  obtain ⟨a0, len0, cap0, rfl⟩ := okWide_slice Try.underlying22 hv
  obtain ⟨fuel, hf⟩ := h
  simp only [Value.cells] at hf
  rcases open_slice Try.underlying22 hf with ⟨hcs, _⟩ | ⟨a, len, cap, m, n, D, Pl, hcs, hb, hl, hm, hmm, _, hx⟩
  · simp at hcs
    obtain ⟨rfl, rfl, rfl⟩ := hcs
    exact ⟨none, 0, 0, [], rfl, ⟨rfl, fun h => absurd h (by omega)⟩, Nat.le_refl _⟩
  · simp at hcs
    obtain ⟨rfl, rfl, rfl⟩ := hcs
    have hlm : len0 ≤ m := by rw [hmm]; split <;> omega
    rw [cells_spot] at hx
    obtain ⟨Y, hY⟩ := choose_lt (α := Deg.S) (n := len0) (p := fun i y => (∀ j, j < 2 → w.cell? ((a.add (i * 2)).add j) = [Value.int .i64 y.1, .int .i64 y.2][j]?)) (fun i hi => by
      obtain ⟨cs', h1, h2⟩ := hx i (by omega)
      obtain ⟨_, _, h3⟩ := World.cells?_some h1
      obtain ⟨y, rfl, _⟩ := trodSpot h2
      exact ⟨y, h3⟩)
    obtain ⟨b, off, spot⟩ := a
    refine ⟨some ⟨b, off, spot⟩, len0, cap0, (List.range len0).map Y, rfl, ⟨by simp, fun hn => ?_⟩, hl⟩
    have h0 := (hY 0 hn) 0 (by omega)
    simp only [List.getElem?_cons_zero] at h0
    have hs : spot = none := by simpa [Addr.add] using World.cell?_spot h0
    subst hs
    have hlt := World.block_lt_of_cell? w _ h0
    refine ⟨b, off, rfl, hlt, fun i x hi => ?_⟩
    obtain ⟨hi1, hi2⟩ := List.getElem?_eq_some_iff.1 hi
    have hi3 : i < len0 := by simpa using hi1
    have hi4 : Y i = x := by simpa using hi2
    have g := hY i hi3
    rw [hi4] at g
    refine ⟨?_, ?_⟩
    · have := g 0 (by omega); rw [addAtP, addAtP] at this; exact this
    · have := g 1 (by omega); rw [addAtP, addAtP] at this; exact this
end
end Go.Proofs.Ytakajahogjeiaaa.Wk
