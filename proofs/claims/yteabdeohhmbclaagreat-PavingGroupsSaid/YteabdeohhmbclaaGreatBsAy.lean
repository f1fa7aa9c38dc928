/- Small words: whole rows stored in a box of one's own, or in a part of it; whole rows loaded under a guard. -/
import Derived.Test.YteabdeohhmbclaaGreatRegLiby
import Derived.Test.YteabdeohhmbclaaGreatPureAy
import Derived.Deep.MidRow
import Derived.Laws.Tables
namespace Go.Proofs.YteabdeohhmbclaaGreat.Wk
open Go.RowKit Go.Proofs.Pl
set_option linter.unusedSimpArgs false
set_option linter.unusedVariables false

def Put (w w' : World) (g : Nat) : Prop := w'.os = w.os ∧ w'.tape = w.tape ∧ w'.output = w.output ∧ w'.heap.size = w.heap.size ∧ ∀ k, k ≠ g → w'.heap[k]? = w.heap[k]?
theorem Put.row (W : World) (g : Nat) (cs : Array Value) : Put W (W.setRow g cs) g := ⟨rfl, rfl, rfl, by simp [World.setRow], fun k hk => setRow_other W g k cs hk⟩
theorem Put.cell (W : World) (g i : Nat) (v : Value) : Put W (W.setCell ⟨g, i, none⟩ v) g := ⟨rfl, rfl, rfl, by simp [World.setCell], fun k hk => Below.heap_setCell W ⟨g, i, none⟩ v k hk⟩
theorem Put.size {a b : World} {g : Nat} (h : Put a b g) : b.heap.size = a.heap.size := h.2.2.2.1
theorem Put.blk {a b : World} {g k : Nat} {t : TypeId} {cs : Array Value} (h : Put a b g) (hb : Blk a k t cs) (hk : k ≠ g) : Blk b k t cs := (h.2.2.2.2 k hk).trans hb
theorem Put.bel {a b w : World} {g B : Nat} (h : Put a b g) (hb : Below B w a) (hg : B ≤ g) : Below B w b :=
 ⟨h.1.trans hb.os, h.2.1.trans hb.tape, h.2.2.1.trans hb.output, by rw [h.size]; exact hb.size, fun k hk => (h.2.2.2.2 k (by omega)).trans (hb.block k hk)⟩
section
variable {ops : Array Oper} {rest : List Oper} {o : Oper} {a : Act} {Q : Exit → Act → World → Prop} {W : World}
theorem wpList_stG (hgd : o.guard = none) (ty : TypeId) (p q : Operand) (ho : o.op = .store ty p q) (g : Nat) (zs cs : Array Value) (hB : Blk W g ty zs) (hp : a.eval p = .pointer (some ⟨g, 0, none⟩)) (hq : a.eval q = .agg cs) (hi : (Tryz.prog.info? ty).map (·.size) = some cs.size) (hz : zs.size = cs.size) (h1 : cs.all (·.oneCell') = true)
  (h : ∀ W1, Blk W1 g ty cs → Put W W1 g → wpList Tryz.prog ops Q rest (a.put o.dst undef) W1) : wpList Tryz.prog ops Q (o :: rest) a W :=
 wpList_store_row hgd ty p q ho g cs hp hq ty zs hB hi hz h1
  (h _ (setRow_heap _ g _ cs ty (0, 0) hB) (Put.row W g cs))
end
theorem below_put {w W : World} {o : Obj} (hg : Put (w.alloc o) W w.heap.size) : Below w.heap.size w W := hg.bel ((Below.refl _ _).alloc (Nat.le_refl _) o) (Nat.le_refl _)
end Go.Proofs.YteabdeohhmbclaaGreat.Wk
namespace Go.Proofs.YteabdeohhmbclaaGreat.Wk
open Go.RowKit Go.Proofs.Pl
set_option linter.unusedSimpArgs false
set_option linter.unusedVariables false

def SlN (w : World) (B : Nat) (A : Option Addr) (n : Nat) (xs : List Num) : Prop :=
 xs.length = n ∧ (0 < n → ∃ b off, A = some ⟨b, off, none⟩ ∧ b < B ∧ ∀ (i : Nat) (x : Num), xs[i]? = some x →
  w.cell? ⟨b, off + i * 4, none⟩ = some (.i x.k) ∧ w.cell? ⟨b, off + i * 4 + 1, none⟩ = some (.b x.n) ∧ w.cell? ⟨b, off + i * 4 + 2, none⟩ = some (.u x.m) ∧ w.cell? ⟨b, off + i * 4 + 3, none⟩ = some (.i x.e))
def SlI (w : World) (B : Nat) (A : Option Addr) (n : Nat) (xs : List Iv) : Prop :=
 xs.length = n ∧ (0 < n → ∃ b off, A = some ⟨b, off, none⟩ ∧ b < B ∧ ∀ (i : Nat) (x : Iv), xs[i]? = some x →
  w.cell? ⟨b, off + i * 9, none⟩ = some (.b x.emp) ∧ w.cell? ⟨b, off + i * 9 + 1, none⟩ = some (.i x.lo.k) ∧ w.cell? ⟨b, off + i * 9 + 2, none⟩ = some (.b x.lo.n) ∧ w.cell? ⟨b, off + i * 9 + 3, none⟩ = some (.u x.lo.m) ∧ w.cell? ⟨b, off + i * 9 + 4, none⟩ = some (.i x.lo.e) ∧
  w.cell? ⟨b, off + i * 9 + 5, none⟩ = some (.i x.hi.k) ∧ w.cell? ⟨b, off + i * 9 + 6, none⟩ = some (.b x.hi.n) ∧ w.cell? ⟨b, off + i * 9 + 7, none⟩ = some (.u x.hi.m) ∧ w.cell? ⟨b, off + i * 9 + 8, none⟩ = some (.i x.hi.e))
section
variable {w w' : World} {B B' n : Nat} {A : Option Addr}
theorem SlN.keep {xs : List Num} (h : SlN w B A n xs) (hk : ∀ b o, b < B → w'.cell? ⟨b, o, none⟩ = w.cell? ⟨b, o, none⟩) : SlN w' B A n xs :=
 ⟨h.1, fun hn => by
  obtain ⟨b, off, e, hb, hc⟩ := h.2 hn
  refine ⟨b, off, e, hb, fun i x hx => ?_⟩
  simp only [hk b _ hb]
  exact hc i x hx⟩
theorem SlI.keep {xs : List Iv} (h : SlI w B A n xs) (hk : ∀ b o, b < B → w'.cell? ⟨b, o, none⟩ = w.cell? ⟨b, o, none⟩) : SlI w' B A n xs :=
 ⟨h.1, fun hn => by
  obtain ⟨b, off, e, hb, hc⟩ := h.2 hn
  refine ⟨b, off, e, hb, fun i x hx => ?_⟩
  simp only [hk b _ hb]
  exact hc i x hx⟩
theorem SlN.below {xs : List Num} (h : SlN w B A n xs) (hb : Below B w w') : SlN w' B A n xs := h.keep fun b o hlt => hb.cell (p := ⟨b, o, none⟩) hlt
theorem SlI.below {xs : List Iv} (h : SlI w B A n xs) (hb : Below B w w') : SlI w' B A n xs := h.keep fun b o hlt => hb.cell (p := ⟨b, o, none⟩) hlt
theorem SlN.more {xs : List Num} (h : SlN w B A n xs) (hB : B ≤ B') : SlN w B' A n xs := ⟨h.1, fun hn => by obtain ⟨b, off, e, hb, hc⟩ := h.2 hn; exact ⟨b, off, e, by omega, hc⟩⟩
theorem SlI.more {xs : List Iv} (h : SlI w B A n xs) (hB : B ≤ B') : SlI w B' A n xs := ⟨h.1, fun hn => by obtain ⟨b, off, e, hb, hc⟩ := h.2 hn; exact ⟨b, off, e, by omega, hc⟩⟩
theorem SlN.at_ {xs : List Num} (h : SlN w B A n xs) {k : Nat} (hk : k < n) : ∃ b off x, A = some ⟨b, off, none⟩ ∧ b < B ∧ xs[k]? = some x ∧
  w.cell? ⟨b, off + k * 4, none⟩ = some (.i x.k) ∧ w.cell? ⟨b, off + k * 4 + 1, none⟩ = some (.b x.n) ∧ w.cell? ⟨b, off + k * 4 + 2, none⟩ = some (.u x.m) ∧ w.cell? ⟨b, off + k * 4 + 3, none⟩ = some (.i x.e) := by
 obtain ⟨b, off, e, hb, hc⟩ := h.2 (by omega)
 have hl : k < xs.length := by have := h.1; omega
 exact ⟨b, off, xs[k], e, hb, List.getElem?_eq_getElem hl, hc k _ (List.getElem?_eq_getElem hl)⟩
theorem SlI.at_ {xs : List Iv} (h : SlI w B A n xs) {k : Nat} (hk : k < n) : ∃ b off x, A = some ⟨b, off, none⟩ ∧ b < B ∧ xs[k]? = some x ∧
  w.cell? ⟨b, off + k * 9, none⟩ = some (.b x.emp) ∧ w.cell? ⟨b, off + k * 9 + 1, none⟩ = some (.i x.lo.k) ∧ w.cell? ⟨b, off + k * 9 + 2, none⟩ = some (.b x.lo.n) ∧ w.cell? ⟨b, off + k * 9 + 3, none⟩ = some (.u x.lo.m) ∧ w.cell? ⟨b, off + k * 9 + 4, none⟩ = some (.i x.lo.e) ∧
  w.cell? ⟨b, off + k * 9 + 5, none⟩ = some (.i x.hi.k) ∧ w.cell? ⟨b, off + k * 9 + 6, none⟩ = some (.b x.hi.n) ∧ w.cell? ⟨b, off + k * 9 + 7, none⟩ = some (.u x.hi.m) ∧ w.cell? ⟨b, off + k * 9 + 8, none⟩ = some (.i x.hi.e) := by
 obtain ⟨b, off, e, hb, hc⟩ := h.2 (by omega)
 have hl : k < xs.length := by have := h.1; omega
 exact ⟨b, off, xs[k], e, hb, List.getElem?_eq_getElem hl, hc k _ (List.getElem?_eq_getElem hl)⟩
end
theorem foldl_take_succ {α β : Type} (f : β → α → β) (s : β) (xs : List α) (k : Nat) (x : α) (h : xs[k]? = some x) : (xs.take (k + 1)).foldl f s = f ((xs.take k).foldl f s) x := by
 rw [List.take_add_one, h]
 simp [List.foldl_append]
end Go.Proofs.YteabdeohhmbclaaGreat.Wk
