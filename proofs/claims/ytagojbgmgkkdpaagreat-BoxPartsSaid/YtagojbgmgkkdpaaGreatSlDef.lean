/- Slices of numbers and of intervals as lists. -/
import Derived.Test.YtagojbgmgkkdpaaGreatRegLib
import Derived.Test.YtagojbgmgkkdpaaGreatNumDef
namespace Go.Proofs.YtagojbgmgkkdpaaGreat.Wk
open Go.RowKit Go.Proofs.Pl
set_option linter.unusedSimpArgs false
set_option linter.unusedVariables false

/-- A slice of numbers, below block B. -/
def SlN (w : World) (B : Nat) (A : Option Addr) (n : Nat) (xs : List Num) : Prop :=
 xs.length = n ∧ (0 < n → ∃ b off, A = some ⟨b, off, none⟩ ∧ b < B ∧ ∀ (i : Nat) (x : Num), xs[i]? = some x →
  w.cell? ⟨b, off + i * 4, none⟩ = some (.int .i64 x.k) ∧ w.cell? ⟨b, off + i * 4 + 1, none⟩ = some (.bool x.n) ∧ w.cell? ⟨b, off + i * 4 + 2, none⟩ = some (.int .u64 x.m) ∧ w.cell? ⟨b, off + i * 4 + 3, none⟩ = some (.int .i64 x.e))
/-- A slice of intervals, below block B. -/
def SlI (w : World) (B : Nat) (A : Option Addr) (n : Nat) (xs : List Iv) : Prop :=
 xs.length = n ∧ (0 < n → ∃ b off, A = some ⟨b, off, none⟩ ∧ b < B ∧ ∀ (i : Nat) (x : Iv), xs[i]? = some x →
  w.cell? ⟨b, off + i * 9, none⟩ = some (.bool x.emp) ∧ w.cell? ⟨b, off + i * 9 + 1, none⟩ = some (.int .i64 x.lo.k) ∧ w.cell? ⟨b, off + i * 9 + 2, none⟩ = some (.bool x.lo.n) ∧ w.cell? ⟨b, off + i * 9 + 3, none⟩ = some (.int .u64 x.lo.m) ∧ w.cell? ⟨b, off + i * 9 + 4, none⟩ = some (.int .i64 x.lo.e) ∧
  w.cell? ⟨b, off + i * 9 + 5, none⟩ = some (.int .i64 x.hi.k) ∧ w.cell? ⟨b, off + i * 9 + 6, none⟩ = some (.bool x.hi.n) ∧ w.cell? ⟨b, off + i * 9 + 7, none⟩ = some (.int .u64 x.hi.m) ∧ w.cell? ⟨b, off + i * 9 + 8, none⟩ = some (.int .i64 x.hi.e))
section
variable {w w' : World} {B B' n : Nat} {A : Option Addr}
theorem SlN.keep {xs : List Num} (h : SlN w B A n xs) (hk : ∀ b o, b < B → w'.cell? ⟨b, o, none⟩ = w.cell? ⟨b, o, none⟩) : SlN w' B A n xs :=
 ⟨h.1, fun hn => by
  obtain ⟨b, off, e, hb, hc⟩ := h.2 hn
  refine ⟨b, off, e, hb, fun i x hx => ?_⟩
  simp only [hk b _ hb]
  exact hc i x hx⟩
theorem SlI.keep {xs : List Iv} (h : SlI w B A n xs) (hk : ∀ b o, b < B → w'.cell? ⟨b, o, none⟩ = w.cell? ⟨b, o, none⟩) : SlI w' B A n xs :=
 ⟨h.1, fun hn => by
  obtain ⟨b, off, e, hb, hc⟩ := h.2 hn
  refine ⟨b, off, e, hb, fun i x hx => ?_⟩
  simp only [hk b _ hb]
  exact hc i x hx⟩
theorem SlN.below {xs : List Num} (h : SlN w B A n xs) (hb : Below B w w') : SlN w' B A n xs := h.keep fun b o hlt => hb.cell (p := ⟨b, o, none⟩) hlt
theorem SlI.below {xs : List Iv} (h : SlI w B A n xs) (hb : Below B w w') : SlI w' B A n xs := h.keep fun b o hlt => hb.cell (p := ⟨b, o, none⟩) hlt
theorem SlN.more {xs : List Num} (h : SlN w B A n xs) (hB : B ≤ B') : SlN w B' A n xs := ⟨h.1, fun hn => by obtain ⟨b, off, e, hb, hc⟩ := h.2 hn; exact ⟨b, off, e, by omega, hc⟩⟩
theorem SlI.more {xs : List Iv} (h : SlI w B A n xs) (hB : B ≤ B') : SlI w B' A n xs := ⟨h.1, fun hn => by obtain ⟨b, off, e, hb, hc⟩ := h.2 hn; exact ⟨b, off, e, by omega, hc⟩⟩
theorem SlN.at_ {xs : List Num} (h : SlN w B A n xs) {k : Nat} (hk : k < n) : ∃ b off x, A = some ⟨b, off, none⟩ ∧ b < B ∧ xs[k]? = some x ∧
  w.cell? ⟨b, off + k * 4, none⟩ = some (.int .i64 x.k) ∧ w.cell? ⟨b, off + k * 4 + 1, none⟩ = some (.bool x.n) ∧ w.cell? ⟨b, off + k * 4 + 2, none⟩ = some (.int .u64 x.m) ∧ w.cell? ⟨b, off + k * 4 + 3, none⟩ = some (.int .i64 x.e) := by
 obtain ⟨b, off, e, hb, hc⟩ := h.2 (by omega)
 have hl : k < xs.length := by have := h.1; omega
 exact ⟨b, off, xs[k], e, hb, List.getElem?_eq_getElem hl, hc k _ (List.getElem?_eq_getElem hl)⟩
theorem SlI.at_ {xs : List Iv} (h : SlI w B A n xs) {k : Nat} (hk : k < n) : ∃ b off x, A = some ⟨b, off, none⟩ ∧ b < B ∧ xs[k]? = some x ∧
  w.cell? ⟨b, off + k * 9, none⟩ = some (.bool x.emp) ∧ w.cell? ⟨b, off + k * 9 + 1, none⟩ = some (.int .i64 x.lo.k) ∧ w.cell? ⟨b, off + k * 9 + 2, none⟩ = some (.bool x.lo.n) ∧ w.cell? ⟨b, off + k * 9 + 3, none⟩ = some (.int .u64 x.lo.m) ∧ w.cell? ⟨b, off + k * 9 + 4, none⟩ = some (.int .i64 x.lo.e) ∧
  w.cell? ⟨b, off + k * 9 + 5, none⟩ = some (.int .i64 x.hi.k) ∧ w.cell? ⟨b, off + k * 9 + 6, none⟩ = some (.bool x.hi.n) ∧ w.cell? ⟨b, off + k * 9 + 7, none⟩ = some (.int .u64 x.hi.m) ∧ w.cell? ⟨b, off + k * 9 + 8, none⟩ = some (.int .i64 x.hi.e) := by
 obtain ⟨b, off, e, hb, hc⟩ := h.2 (by omega)
 have hl : k < xs.length := by have := h.1; omega
 exact ⟨b, off, xs[k], e, hb, List.getElem?_eq_getElem hl, hc k _ (List.getElem?_eq_getElem hl)⟩
end
theorem foldl_take_succ {α β : Type} (f : β → α → β) (s : β) (xs : List α) (k : Nat) (x : α) (h : xs[k]? = some x) : (xs.take (k + 1)).foldl f s = f ((xs.take k).foldl f s) x := by
 rw [List.take_add_one, h]
 simp [List.foldl_append]
end Go.Proofs.YtagojbgmgkkdpaaGreat.Wk
