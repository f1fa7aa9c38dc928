/- An argument opened: a slice of intervals. -/
import Derived.Test.YtagojbgmgkkdpaaGreatOpenD
namespace Go.Proofs.YtagojbgmgkkdpaaGreat.Wk
open Go.ChangeShapes Go.WideShapes Go.ChangeAt Go.RowKit Go.Joins Go.Deep Go.Proofs.Pl
set_option linter.unusedVariables false
set_option linter.unusedSimpArgs false

theorem addAt (b off k : Nat) : (⟨b, off, none⟩ : Addr).add k = ⟨b, off + k, none⟩ := by
 unfold Addr.add
 split
 ·next h => subst h; rfl
 ·simp
instance : Inhabited Iv := ⟨noneI⟩
section
variable {H : Type} {enc : TypeId × Value → H} {w : World} {base : Nat} {spare : Nat → Bool} {held : Bool}
set_option maxRecDepth 100000 in
theorem openSlI {r : Reach} {b0 : Nat} {v : Value} {d : DataW H} {p : List MemPlace} (hv : Value.okWide Tryz.prog w r b0 22 v) (h : DataW.Trod enc Tryz.prog w base spare held 22 v d p) :
  ∃ (A : Option Addr) (n c : Nat) (xs : List Iv), v = .slice A n c ∧ (SlI w w.heap.size A n xs ∧ (∀ x ∈ xs, WfI x) ∧ n ≤ maxLen) := by
 obtain ⟨a0, len0, cap0, rfl⟩ := okWide_slice Tryz.underlying22 hv
 obtain ⟨fuel, hf⟩ := h
 simp only [Value.cells] at hf
 rcases open_slice Tryz.underlying22 hf with ⟨hcs, _⟩ | ⟨a, len, cap, m, n, D, Pl, hcs, hb, hl, hm, hmm, _, hx⟩
 ·simp at hcs
  obtain ⟨rfl, rfl, rfl⟩ := hcs
  exact ⟨none, 0, 0, [], rfl, ⟨rfl, fun h => absurd h (by omega)⟩, fun x hx => by simp at hx, by simp [maxLen]⟩
 ·simp at hcs
  obtain ⟨rfl, rfl, rfl⟩ := hcs
  have hlm : len0 ≤ m := by rw [hmm]; split <;> omega
  rw [cells_iv] at hx
  obtain ⟨Y, hY⟩ := choose_lt (α := Iv) (n := len0) (p := fun i y => (∀ j, j < 9 → w.cell? ((a.add (i * 9)).add j) = [Value.bool y.emp, .int .i64 y.lo.k, .bool y.lo.n, .int .u64 y.lo.m, .int .i64 y.lo.e, .int .i64 y.hi.k, .bool y.hi.n, .int .u64 y.hi.m, .int .i64 y.hi.e][j]?) ∧ WfI y) (fun i hi => by
   obtain ⟨cs', h1, h2⟩ := hx i (by omega)
   obtain ⟨_, _, h3⟩ := World.cells?_some h1
   obtain ⟨y, rfl, wy⟩ := trodIv h2
   exact ⟨y, h3, wy⟩)
  obtain ⟨b, off, spot⟩ := a
  refine ⟨some ⟨b, off, spot⟩, len0, cap0, (List.range len0).map Y, rfl, ⟨by simp, fun hn => ?_⟩, ?_, by omega⟩
  ·have h0 := (hY 0 hn).1 0 (by omega)
   simp only [List.getElem?_cons_zero] at h0
   have hs : spot = none := by simpa [Addr.add] using World.cell?_spot h0
   subst hs
   have hlt := World.block_lt_of_cell? w _ h0
   refine ⟨b, off, rfl, hlt, fun i x hi => ?_⟩
   obtain ⟨hi1, hi2⟩ := List.getElem?_eq_some_iff.1 hi
   have hi3 : i < len0 := by simpa using hi1
   have hi4 : Y i = x := by simpa using hi2
   have g := (hY i hi3).1
   rw [hi4] at g
   refine ⟨?_, ?_, ?_, ?_, ?_, ?_, ?_, ?_, ?_⟩
   ·have := g 0 (by omega); rw [addAt, addAt] at this; exact this
   ·have := g 1 (by omega); rw [addAt, addAt] at this; exact this
   ·have := g 2 (by omega); rw [addAt, addAt] at this; exact this
   ·have := g 3 (by omega); rw [addAt, addAt] at this; exact this
   ·have := g 4 (by omega); rw [addAt, addAt] at this; exact this
   ·have := g 5 (by omega); rw [addAt, addAt] at this; exact this
   ·have := g 6 (by omega); rw [addAt, addAt] at this; exact this
   ·have := g 7 (by omega); rw [addAt, addAt] at this; exact this
   ·have := g 8 (by omega); rw [addAt, addAt] at this; exact this
  ·intro x hx'
   simp only [List.mem_map, List.mem_range] at hx'
   obtain ⟨i, hi, rfl⟩ := hx'
   exact (hY i hi).2
end
end Go.Proofs.YtagojbgmgkkdpaaGreat.Wk
