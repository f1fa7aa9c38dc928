/- Arguments opened: a slice of bytes. -/
import Derived.Test.YtakajahogjeiaabOpenD
import Derived.Test.YtakajahogjeiaabRdA
namespace Go.Proofs.Ytakajahogjeiaab.Wk
open Go.ChangeShapes Go.WideShapes Go.ChangeAt Go.RowKit Go.Joins Go.Deep Go.Proofs.Pl
set_option linter.unusedVariables false
set_option linter.unusedSimpArgs false

theorem cells_byte : Try.prog.cellsOf 5 = 1 := by kernel_rfl
section
variable {H : Type} {enc : TypeId × Value → H} {w : World} {base : Nat} {spare : Nat → Bool} {held : Bool}
set_option maxRecDepth 100000 in
theorem openSlB {r : Reach} {b0 : Nat} {v : Value} {d : DataW H} {p : List MemPlace} (hv : Value.okWide Try.prog w r b0 35 v) (h : DataW.Trod enc Try.prog w base spare held 35 v d p) :
    ∃ (A : Option Addr) (n c : Nat) (xs : List Int), v = .slice A n c ∧ (SlB w w.heap.size A n xs ∧ Byt xs ∧ n ≤ c ∧ c ≤ maxLen) := by
  obtain ⟨a0, len0, cap0, rfl⟩ := okWide_slice Try.underlying35 hv
  obtain ⟨fuel, hf⟩ := h
  simp only [Value.cells] at hf
  rcases open_ints Try.underlying35 Try.underlying5 cells_byte hf with ⟨hcs, _⟩ | ⟨a, len, cap, zs, hcs, hb, hl, hm, hz, _, hx, hwf⟩
  · simp at hcs
    obtain ⟨rfl, rfl, rfl⟩ := hcs
    exact ⟨none, 0, 0, [], rfl, ⟨rfl, fun h => absurd h (by omega)⟩, fun x hx => by simp at hx, Nat.le_refl _, Nat.zero_le _⟩
  · simp at hcs
    obtain ⟨rfl, rfl, rfl⟩ := hcs
    have hlm : len0 ≤ zs.length := by rw [hz]; split <;> omega
    obtain ⟨b, off, spot⟩ := a
    refine ⟨some ⟨b, off, spot⟩, len0, cap0, zs.take len0, rfl, ⟨by simp; omega, fun hn => ?_⟩, fun x hx' => ?_, hl, hm⟩
    · have h0 := hx 0 (by omega)
      have hs : spot = none := by simpa [Addr.add] using World.cell?_spot h0
      subst hs
      have hlt := World.block_lt_of_cell? w _ h0
      refine ⟨b, off, rfl, hlt, fun i hi => ?_⟩
      have g := hx i (by omega)
      rw [addAtB] at g
      rw [g]
      simp [List.getD, List.getElem?_take, hi]
    · have := bounds_u8 (hwf x (List.mem_of_mem_take hx'))
      omega
end
end Go.Proofs.Ytakajahogjeiaab.Wk
