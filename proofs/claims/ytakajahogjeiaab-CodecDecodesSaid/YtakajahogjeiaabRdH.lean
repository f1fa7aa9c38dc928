/- Small words: whole rows stored in a box of one's own, or in a part of it. -/
import Derived.Test.YtakajahogjeiaabRdP
namespace Go.Proofs.Ytakajahogjeiaab.Wk
open Go.RowKit Go.Proofs.Pl Go.Proofs.YtakajahogjeiaabW.PrintLast
set_option linter.unusedSimpArgs false
set_option linter.unusedVariables false

theorem grown_new {w W W1 : World} {r : Option Nat} {g : Nat} (h : w.grownBy W r) (k : W.grownBy W1 (some g)) (hg : w.heap.size ≤ g) : w.grownBy W1 r := by
  obtain ⟨h1, h2, h3, h4, h5⟩ := h
  obtain ⟨k1, k2, k3, k4, k5⟩ := k
  exact ⟨k1.trans h1, k2.trans h2, k3.trans h3, Nat.le_trans h4 k4, fun i hi hr => (k5 i (Nat.lt_of_lt_of_le hi h4) (by intro e; cases e; omega)).trans (h5 i hi hr)⟩
theorem grown_drew {w W : World} {r : Option Nat} (h : w.grownBy W r) : w.grownBy W.drew r := h.trans ⟨rfl, rfl, rfl, Nat.le_refl _, fun _ _ _ => rfl⟩
theorem Rd.far' {w w' : World} {B p g : Nat} {bs : List Int} {bad : Bool} (h : Rd w B p bs bad) (hg : w.grownBy w' (some g)) (hp : p < g) : Rd w' B p bs bad := h.far hg (by have := h.1; omega) (by omega)
theorem grown_row (W : World) (g : Nat) (cs : Array Value) : W.grownBy (W.setRow g cs) (some g) :=
  ⟨rfl, rfl, rfl, by simp [World.setRow], fun k hk hne => setRow_other W g k cs (fun e => hne (by rw [e]))⟩
theorem size_row (W : World) (g : Nat) (cs : Array Value) : (W.setRow g cs).heap.size = W.heap.size := by simp [World.setRow]
def putL (cs : Array Value) : Nat → List Value → Array Value
  | _, [] => cs
  | o, v :: r => putL (cs.setIfInBounds o v) (o + 1) r
theorem Blk.putL {g : Nat} {t : TypeId} : ∀ (vs : List Value) (o : Nat) (w : World) (cs : Array Value), Blk w g t cs → Blk (w.setCells g o vs) g t (putL cs o vs)
  | [], _, _, _, h => h
  | v :: r, o, w, cs, h => Blk.putL r (o + 1) _ _ (h.set_ o v)
theorem grown_cells (g : Nat) : ∀ (vs : List Value) (o : Nat) (w : World), w.grownBy (w.setCells g o vs) (some g) ∧ (w.setCells g o vs).heap.size = w.heap.size
  | [], _, w => ⟨World.grownBy.refl w _, rfl⟩
  | v :: r, o, w => by
    obtain ⟨h1, h2⟩ := grown_cells g r (o + 1) (w.setCell ⟨g, o, none⟩ v)
    exact ⟨(grown_set w g o v).trans h1, by rw [World.setCells, h2]; simp [World.setCell]⟩
theorem Blk.there {w : World} {g o n : Nat} {t : TypeId} {cs : Array Value} (h : Blk w g t cs) (hn : o + n ≤ cs.size) : w.there g o n := fun j hj =>
  ⟨by rw [h.cell (o + j), Array.getElem?_eq_getElem (by omega)]; rfl, h.frozen (o + j)⟩
section
variable {ops : Array Oper} {rest : List Oper} {o : Oper} {a : Act} {Q : Exit → Act → World → Prop} {W : World}
/-- a whole row is stored -/
theorem wpList_storeG (hgd : o.guard = none) (ty : TypeId) (p q : Operand) (ho : o.op = .store ty p q) (g : Nat) (zs cs : Array Value) (hB : Blk W g ty zs) (hp : a.eval p = .pointer (some ⟨g, 0, none⟩)) (hq : a.eval q = .agg cs) (hi : (Try.prog.info? ty).map (·.size) = some cs.size) (hz : zs.size = cs.size) (h1 : cs.all (·.oneCell') = true)
    (h : ∀ W1, Blk W1 g ty cs → W.grownBy W1 (some g) → W1.heap.size = W.heap.size → wpList Try.prog ops Q rest (a.put o.dst undef) W1) : wpList Try.prog ops Q (o :: rest) a W :=
  wpList_store_row hgd ty p q ho g cs hp hq ty zs hB hi hz h1
    (h _ (setRow_heap _ g _ cs ty (0, 0) hB) (grown_row W g cs) (size_row W g cs))
/-- a row is stored into a part of a box -/
theorem wpList_storeM (hgd : o.guard = none) (ty : TypeId) (p q : Operand) (ho : o.op = .store ty p q) (g off : Nat) (T : TypeId) (zs cs zs' : Array Value) (hB : Blk W g T zs) (hp : a.eval p = .pointer (some ⟨g, off, none⟩)) (hq : a.eval q = .agg cs) (hi : (Try.prog.info? ty).map (·.size) = some cs.size) (hz : off + cs.size ≤ zs.size) (h1 : cs.all (·.oneCell') = true) (he : putL zs off cs.toList = zs')
    (h : ∀ W1, Blk W1 g T zs' → W.grownBy W1 (some g) → W1.heap.size = W.heap.size → wpList Try.prog ops Q rest (a.put o.dst undef) W1) : wpList Try.prog ops Q (o :: rest) a W :=
  wpList_store_mid hgd ty p q ho g off cs hp hq (hB.there hz) hi h1
    (h _ (by rw [← he]; exact hB.putL cs.toList off W zs) (grown_cells g cs.toList off W).1 (grown_cells g cs.toList off W).2)
end
theorem tk_one (bs : List Int) : ∃ m, tk 1 bs = [m] ∧ valB (tk 1 bs) = m := ⟨_, one_of (tk_length 1 bs), rfl⟩
/-- one byte taken -/
theorem SlB.one {w : World} {B : Nat} {A : Option Addr} {m : Int} (h : SlB w B A 1 [m]) : ∃ b off, A = some ⟨b, off, none⟩ ∧ b < B ∧ w.cell? ⟨b, off, none⟩ = some (.int .u8 m) := by
  obtain ⟨b, off, e, hb, hc⟩ := h.2 (by omega)
  exact ⟨b, off, e, hb, hc 0 (by omega)⟩
theorem take1_calls (B p : Nat) (bs : List Int) (bad : Bool) (m : Int) (hl : tk 1 bs = [m]) (w : World) (hR : Rd w B p bs bad) :
    Calls Try.prog 72 #[.pointer (some ⟨p, 0, none⟩), .int .i64 1] w fun e w' => ∃ b off, e = .returned (.slice (some ⟨b, off, none⟩) 1 1) ∧ b < w'.heap.size ∧ w'.cell? ⟨b, off, none⟩ = some (.int .u8 m) ∧ Rd w' B p (dr 1 bs) (bad || sh 1 bs) ∧ w.grownBy w' (some p) :=
  (take_calls B p bs bad 1 (by omega) (by omega) w hR).mono fun e w' ⟨A, he, S, R, G⟩ => by
    rw [hl] at S
    obtain ⟨b, off, rfl, hb, hc⟩ := S.one
    exact ⟨b, off, he, hb, hc, R, G⟩
theorem rword8_calls (B p : Nat) (bs : List Int) (bad : Bool) (w : World) (hR : Rd w B p bs bad) :
    Calls Try.prog 109 #[.pointer (some ⟨p, 0, none⟩), .int .i64 8] w fun e w' => e = .returned (.int .u64 (valB (tk 8 bs))) ∧ Rd w' B p (dr 8 bs) (bad || sh 8 bs) ∧ w.grownBy w' (some p) := rword_calls B p bs bad 8 (by omega) (by omega) w hR
theorem rword4_calls (B p : Nat) (bs : List Int) (bad : Bool) (w : World) (hR : Rd w B p bs bad) :
    Calls Try.prog 109 #[.pointer (some ⟨p, 0, none⟩), .int .i64 4] w fun e w' => e = .returned (.int .u64 (valB (tk 4 bs))) ∧ Rd w' B p (dr 4 bs) (bad || sh 4 bs) ∧ w.grownBy w' (some p) := rword_calls B p bs bad 4 (by omega) (by omega) w hR
theorem number8_calls (B p : Nat) (bs : List Int) (bad : Bool) (w : World) (hR : Rd w B p bs bad) :
    Calls Try.prog 76 #[.pointer (some ⟨p, 0, none⟩), .int .i64 8] w fun e w' => e = .returned (.int .u64 (valB (tk 8 bs))) ∧ Rd w' B p (dr 8 bs) (bad || sh 8 bs) ∧ w.grownBy w' (some p) := number_calls B p bs bad 8 (by omega) (by omega) w hR
theorem number4_calls (B p : Nat) (bs : List Int) (bad : Bool) (w : World) (hR : Rd w B p bs bad) :
    Calls Try.prog 76 #[.pointer (some ⟨p, 0, none⟩), .int .i64 4] w fun e w' => e = .returned (.int .u64 (valB (tk 4 bs))) ∧ Rd w' B p (dr 4 bs) (bad || sh 4 bs) ∧ w.grownBy w' (some p) := number_calls B p bs bad 4 (by omega) (by omega) w hR
theorem number1_calls (B p : Nat) (bs : List Int) (bad : Bool) (w : World) (hR : Rd w B p bs bad) :
    Calls Try.prog 76 #[.pointer (some ⟨p, 0, none⟩), .int .i64 1] w fun e w' => e = .returned (.int .u64 (valB (tk 1 bs))) ∧ Rd w' B p (dr 1 bs) (bad || sh 1 bs) ∧ w.grownBy w' (some p) := number_calls B p bs bad 1 (by omega) (by omega) w hR
end Go.Proofs.Ytakajahogjeiaab.Wk
