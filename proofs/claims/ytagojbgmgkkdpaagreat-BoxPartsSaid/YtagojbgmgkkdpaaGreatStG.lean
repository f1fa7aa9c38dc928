/- Small words: whole rows stored in a box of one's own, or in a part of it; whole rows loaded under a guard. -/
import Derived.Test.YtagojbgmgkkdpaaGreatRegLib
import Derived.Test.YtagojbgmgkkdpaaGreatNumDef
import Derived.Deep.MidRow
import Derived.Laws.Tables
namespace Go.Proofs.YtagojbgmgkkdpaaGreat.Wk
open Go.RowKit Go.Proofs.Pl
set_option linter.unusedSimpArgs false
set_option linter.unusedVariables false

/-- only block g is another one -/
def Put (w w' : World) (g : Nat) : Prop := w'.os = w.os ∧ w'.tape = w.tape ∧ w'.output = w.output ∧ w'.heap.size = w.heap.size ∧ ∀ k, k ≠ g → w'.heap[k]? = w.heap[k]?
theorem Put.row (W : World) (g : Nat) (cs : Array Value) : Put W (W.setRow g cs) g := ⟨rfl, rfl, rfl, by simp [World.setRow], fun k hk => setRow_other W g k cs hk⟩
theorem Put.cell (W : World) (g i : Nat) (v : Value) : Put W (W.setCell ⟨g, i, none⟩ v) g := ⟨rfl, rfl, rfl, by simp [World.setCell], fun k hk => Below.heap_setCell W ⟨g, i, none⟩ v k hk⟩
theorem Put.refl (W : World) (g : Nat) : Put W W g := ⟨rfl, rfl, rfl, rfl, fun _ _ => rfl⟩
theorem Put.trans {a b c : World} {g : Nat} (h : Put a b g) (k : Put b c g) : Put a c g :=
 ⟨k.1.trans h.1, k.2.1.trans h.2.1, k.2.2.1.trans h.2.2.1, k.2.2.2.1.trans h.2.2.2.1, fun i hi => (k.2.2.2.2 i hi).trans (h.2.2.2.2 i hi)⟩
theorem Put.size {a b : World} {g : Nat} (h : Put a b g) : b.heap.size = a.heap.size := h.2.2.2.1
theorem Put.blk {a b : World} {g k : Nat} {t : TypeId} {cs : Array Value} (h : Put a b g) (hb : Blk a k t cs) (hk : k ≠ g) : Blk b k t cs := (h.2.2.2.2 k hk).trans hb
theorem Put.bel {a b w : World} {g B : Nat} (h : Put a b g) (hb : Below B w a) (hg : B ≤ g) : Below B w b :=
 ⟨h.1.trans hb.os, h.2.1.trans hb.tape, h.2.2.1.trans hb.output, by rw [h.size]; exact hb.size, fun k hk => (h.2.2.2.2 k (by omega)).trans (hb.block k hk)⟩
def putR (cs : Array Value) : Nat → List Value → Array Value
 | _, [] => cs
 | o, v :: r => putR (cs.setIfInBounds o v) (o + 1) r
theorem Blk.putR {g : Nat} {t : TypeId} : ∀ (vs : List Value) (o : Nat) (w : World) (cs : Array Value), Blk w g t cs → Blk (w.setCells g o vs) g t (putR cs o vs)
 | [], _, _, _, h => h
 | v :: r, o, w, cs, h => Blk.putR r (o + 1) _ _ (h.set_ o v)
theorem Put.cells (g : Nat) : ∀ (vs : List Value) (o : Nat) (w : World), Put w (w.setCells g o vs) g
 | [], _, w => Put.refl w g
 | v :: r, o, w => (Put.cell w g o v).trans (Put.cells g r (o + 1) _)
theorem Blk.thereR {w : World} {g o n : Nat} {t : TypeId} {cs : Array Value} (h : Blk w g t cs) (hn : o + n ≤ cs.size) : w.there g o n := fun j hj =>
 ⟨by rw [h.cell (o + j), Array.getElem?_eq_getElem (by omega)]; rfl, h.frozen (o + j)⟩
section
variable {ops : Array Oper} {rest : List Oper} {o : Oper} {a : Act} {Q : Exit → Act → World → Prop} {W : World}
/-- a whole row is stored -/
theorem wpList_stG (hgd : o.guard = none) (ty : TypeId) (p q : Operand) (ho : o.op = .store ty p q) (g : Nat) (zs cs : Array Value) (hB : Blk W g ty zs) (hp : a.eval p = .pointer (some ⟨g, 0, none⟩)) (hq : a.eval q = .agg cs) (hi : (Tryz.prog.info? ty).map (·.size) = some cs.size) (hz : zs.size = cs.size) (h1 : cs.all (·.oneCell') = true)
  (h : ∀ W1, Blk W1 g ty cs → Put W W1 g → wpList Tryz.prog ops Q rest (a.put o.dst undef) W1) : wpList Tryz.prog ops Q (o :: rest) a W :=
 wpList_store_row hgd ty p q ho g cs hp hq ty zs hB hi hz h1
  (h _ (setRow_heap _ g _ cs ty (0, 0) hB) (Put.row W g cs))
/-- a row is stored into a part of a box -/
theorem wpList_stM (hgd : o.guard = none) (ty : TypeId) (p q : Operand) (ho : o.op = .store ty p q) (g off : Nat) (T : TypeId) (zs cs zs' : Array Value) (hB : Blk W g T zs) (hp : a.eval p = .pointer (some ⟨g, off, none⟩)) (hq : a.eval q = .agg cs) (hi : (Tryz.prog.info? ty).map (·.size) = some cs.size) (hz : off + cs.size ≤ zs.size) (h1 : cs.all (·.oneCell') = true) (he : putR zs off cs.toList = zs')
  (h : ∀ W1, Blk W1 g T zs' → Put W W1 g → wpList Tryz.prog ops Q rest (a.put o.dst undef) W1) : wpList Tryz.prog ops Q (o :: rest) a W :=
 wpList_store_mid hgd ty p q ho g off cs hp hq (hB.thereR hz) hi h1
  (h _ (by rw [← he]; exact hB.putR cs.toList off W zs) (Put.cells g cs.toList off W))
end
theorem below_put {w W : World} {o : Obj} (hg : Put (w.alloc o) W w.heap.size) : Below w.heap.size w W := hg.bel ((Below.refl _ _).alloc (Nat.le_refl _) o) (Nat.le_refl _)
end Go.Proofs.YtagojbgmgkkdpaaGreat.Wk
