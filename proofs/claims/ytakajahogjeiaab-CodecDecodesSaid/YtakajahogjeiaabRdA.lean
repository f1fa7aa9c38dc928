/- The reader's box; walks: (*codec.rest).take, check. -/
import Derived.Test.YtakajahogjeiaabCodF
namespace Go.Proofs.Ytakajahogjeiaab.Wk
open Go.RowKit Go.Proofs.Pl Go.Proofs.YtakajahogjeiaabW.PrintLast
set_option linter.unusedSimpArgs false
set_option linter.unusedVariables false

def Byt (bs : List Int) : Prop := ∀ x ∈ bs, 0 ≤ x ∧ x < 256
/-- so many bytes, or noughts; what is left; whether they are not there -/
def tk (k : Nat) (bs : List Int) : List Int := if bs.length < k then List.replicate k 0 else bs.take k
def dr (k : Nat) (bs : List Int) : List Int := if bs.length < k then bs else bs.drop k
def sh (k : Nat) (bs : List Int) : Bool := decide (bs.length < k)
def valB (l : List Int) : Int := l.foldl (fun n c => n * 256 + c) 0
/-- The reader's box at p: the bytes left, which lie below B; whether something was none. -/
def Rd (w : World) (B p : Nat) (bs : List Int) (bad : Bool) : Prop :=
  B ≤ p ∧ Byt bs ∧ ∃ t A c, Blk w p t #[.slice A bs.length c, .bool bad] ∧ SlB w B A bs.length bs ∧ bs.length ≤ c ∧ c ≤ 9223372036854775807
theorem addAtB (b off k : Nat) : (⟨b, off, none⟩ : Addr).add k = ⟨b, off + k, none⟩ := by
  unfold Addr.add
  split
  · next h => subst h; rfl
  · simp
theorem tk_length (k : Nat) (bs : List Int) : (tk k bs).length = k := by
  unfold tk
  split
  · simp
  · simp; omega
theorem Byt.tk {bs : List Int} (h : Byt bs) (k : Nat) : Byt (tk k bs) := by
  intro x hx
  unfold Wk.tk at hx
  split at hx
  · rw [List.mem_replicate] at hx; rw [hx.2]; omega
  · exact h x (List.mem_of_mem_take hx)
theorem Byt.dr {bs : List Int} (h : Byt bs) (k : Nat) : Byt (dr k bs) := by
  intro x hx
  unfold Wk.dr at hx
  split at hx
  · exact h x hx
  · exact h x (List.mem_of_mem_drop hx)
theorem SlB.grown {w w' : World} {B n p : Nat} {A : Option Addr} {xs : List Int} (h : SlB w B A n xs) (hB : B ≤ w.heap.size) (hp : B ≤ p) (hg : w.grownBy w' (some p)) : SlB w' B A n xs :=
  h.keep fun b o hlt => World.cell?_of_block (hg.block b (by omega) (by simp; omega))
theorem SlB.ext {w w' : World} {B n : Nat} {A : Option Addr} {xs : List Int} (h : SlB w B A n xs) (hk : ∀ b, b < B → w'.heap[b]? = w.heap[b]?) : SlB w' B A n xs :=
  h.keep fun b o hlt => World.cell?_of_block (hk b hlt)
theorem SlB.more {w : World} {B B' n : Nat} {A : Option Addr} {xs : List Int} (h : SlB w B A n xs) (hB : B ≤ B') : SlB w B' A n xs :=
  ⟨h.1, fun hn => by obtain ⟨b, off, e, hb, hc⟩ := h.2 hn; exact ⟨b, off, e, by omega, hc⟩⟩
theorem grown_set (w : World) (p i : Nat) (v : Value) : w.grownBy (w.setCell ⟨p, i, none⟩ v) (some p) :=
  ⟨rfl, rfl, rfl, by simp, fun k hk hne => Below.heap_setCell w ⟨p, i, none⟩ v k (fun e => hne (by rw [e]))⟩
theorem grown_alloc {w w' : World} {r : Option Nat} (h : w.grownBy w' r) (o : Obj) : w.grownBy (w'.alloc o) r := h.trans (World.grownBy_alloc w' o r)
theorem Below.grownBy {w w' : World} (h : Below w.heap.size w w') (r : Option Nat) : w.grownBy w' r := ⟨h.os, h.tape, h.output, h.size, fun k hk _ => h.block k hk⟩
theorem grown_below {B p : Nat} {w0 w w' : World} (h : Below B w0 w) (hg : w.grownBy w' (some p)) (hB : B ≤ w.heap.size) (hp : B ≤ p) : Below B w0 w' := h.grown hg hB (fun k hk => by cases hk; exact hp)
/-- the box under calls that leave it -/
theorem Rd.below {w w' : World} {B p : Nat} {bs : List Int} {bad : Bool} (h : Rd w B p bs bad) (hb : Below w.heap.size w w') : Rd w' B p bs bad := by
  obtain ⟨h1, h2, t, A, c, hB, hS, h3, h4⟩ := h
  have hl := Blk.lt hB
  exact ⟨h1, h2, t, A, c, hB.call hb, hS.ext fun b hlt => hb.block b (by omega), h3, h4⟩
theorem Rd.alloc {w : World} {B p : Nat} {bs : List Int} {bad : Bool} (h : Rd w B p bs bad) (o : Obj) : Rd (w.alloc o) B p bs bad := h.below ((Below.refl _ _).alloc (Nat.le_refl _) o)
theorem Rd.lt {w : World} {B p : Nat} {bs : List Int} {bad : Bool} (h : Rd w B p bs bad) : p < w.heap.size := by
  obtain ⟨h1, h2, t, A, c, hB, hS, h3, h4⟩ := h
  exact Blk.lt hB
/-- another block is stored to -/
theorem Rd.far {w w' : World} {B p g : Nat} {bs : List Int} {bad : Bool} (h : Rd w B p bs bad) (hg : w.grownBy w' (some g)) (hB : B ≤ g) (hp : p ≠ g) : Rd w' B p bs bad := by
  obtain ⟨h1, h2, t, A, c, hb, hS, h3, h4⟩ := h
  have hl := Blk.lt hb
  exact ⟨h1, h2, t, A, c, hb.grown hg (by simpa using hp), hS.grown (by omega) hB hg, h3, h4⟩
theorem Rd.bad {w : World} {B p : Nat} {bs : List Int} {bad : Bool} (h : Rd w B p bs bad) (b : Bool) : Rd (w.setCell ⟨p, 1, none⟩ (.bool b)) B p bs b := by
  obtain ⟨h1, h2, t, A, c, hb, hS, h3, h4⟩ := h
  exact ⟨h1, h2, t, A, c, hb.set_ 1 (.bool b), hS.ext fun k hk => Below.heap_setCell w ⟨p, 1, none⟩ _ k (by show k ≠ p; omega), h3, h4⟩
theorem Blk.c2 {w : World} {g : Nat} {t : TypeId} {x0 x1 : Value} (h : Blk w g t #[x0, x1]) : (w.cell? ⟨g, 0, none⟩ = some x0 ∧ w.cell? ⟨g, 1, none⟩ = some x1) ∧ (w.frozen? ⟨g, 0, none⟩ = false ∧ w.frozen? ⟨g, 1, none⟩ = false) := ⟨⟨h.cell 0, h.cell 1⟩, h.frozen 0, h.frozen 1⟩
theorem SlB.from {w : World} {B n : Nat} {A : Option Addr} {xs : List Int} (h : SlB w B A n xs) (k c : Nat) (hk : k ≤ n) (hc : n ≤ c) : ∃ A', sliced A k n c 1 = .slice A' (n - k) (c - k) ∧ SlB w B A' (n - k) (xs.drop k) := by
  refine ⟨_, rfl, by rw [List.length_drop, h.1], fun h0 => ?_⟩
  obtain ⟨b, off, rfl, hb, hcc⟩ := h.2 (by omega)
  rw [if_neg (by omega)]
  refine ⟨b, off + k, by simp [addAtB], hb, fun i hi => ?_⟩
  rw [Nat.add_assoc, hcc (k + i) (by omega)]
  simp [List.getD]
theorem SlB.to {w : World} {B n : Nat} {A : Option Addr} {xs : List Int} (h : SlB w B A n xs) (k m : Nat) (hk : k ≤ n) (hkm : k ≤ m) : ∃ A', sliced A 0 k m 1 = .slice A' k m ∧ SlB w B A' k (xs.take k) := by
  refine ⟨_, rfl, by rw [List.length_take, h.1]; omega, fun h0 => ?_⟩
  obtain ⟨b, off, rfl, hb, hcc⟩ := h.2 (by omega)
  refine ⟨b, off, ?_, hb, fun i hi => ?_⟩
  · split
    · rfl
    · simp [addAtB]
  · rw [hcc i (by omega)]
    simp [List.getD, List.getElem?_take, hi]
section
variable {ops : Array Oper} {rest : List Oper} {o : Oper} {a : Act} {Q : Exit → Act → World → Prop} {w : World}
theorem size_u8 (w : World) : (sizeOf (Try.prog.elem 35)).run Try.prog w = .ok 1 w := by
  obtain ⟨i0, hi, hz0, hz1, hz2⟩ := info_parts infoByte
  have : Try.prog.elem 35 = 5 := by kernel_rfl
  rw [this]
  simp [sizeOf, typeInfo, hi, hz1]
/-- xs[k:] -/
theorem wpList_from (hgd : o.guard = none) (x lo : Operand) (ho : o.op = .slice 35 x (some lo) none none) {A : Option Addr} {n c k : Nat} (hx : a.eval x = .slice A n c) (hlo : a.eval lo = .int .i64 k) {B : Nat} {xs : List Int} (hs : SlB w B A n xs) (hk : k ≤ n) (hc : n ≤ c)
    (h : ∀ A', SlB w B A' (n - k) (xs.drop k) → wpList Try.prog ops Q rest (a.put o.dst (.slice A' (n - k) (c - k))) w) : wpList Try.prog ops Q (o :: rest) a w :=
  wpList_plain hgd fun _ hK => by
    obtain ⟨A', e, hs'⟩ := hs.from k c hk hc
    unfold Oper.wp execOp
    simp only [ho, Option.map_some, Option.map_none, hx, hlo, Sem.run_bind, Sem.run_pure, Result.andThen_ok, run_sliceAt_slice w 35 _ _ _ _ (show Try.prog.underlying 35 = some (.slice (Try.prog.elem 35)) from by kernel_rfl), run_slice_l w 35 A n c (show Try.prog.underlying 35 = some (.slice (Try.prog.elem 35)) from by kernel_rfl) .i64 (k : Int) (by omega) (by omega), size_u8, Int.toNat_natCast, e]
    exact hK _ _ (h A' hs')
/-- xs[:k:k] -/
theorem wpList_to3 (hgd : o.guard = none) (x hi mx : Operand) (ho : o.op = .slice 35 x none (some hi) (some mx)) {A : Option Addr} {n c k : Nat} (hx : a.eval x = .slice A n c) (hhi : a.eval hi = .int .i64 k) (hmx : a.eval mx = .int .i64 k) {B : Nat} {xs : List Int} (hs : SlB w B A n xs) (hk : k ≤ n) (hc : n ≤ c)
    (h : ∀ A', SlB w B A' k (xs.take k) → wpList Try.prog ops Q rest (a.put o.dst (.slice A' k k)) w) : wpList Try.prog ops Q (o :: rest) a w :=
  wpList_plain hgd fun _ hK => by
    obtain ⟨A', e, hs'⟩ := hs.to k k hk (Nat.le_refl _)
    unfold Oper.wp execOp
    simp only [ho, Option.map_some, Option.map_none, hx, hhi, hmx, Sem.run_bind, Sem.run_pure, Result.andThen_ok, run_sliceAt_slice w 35 _ _ _ _ (show Try.prog.underlying 35 = some (.slice (Try.prog.elem 35)) from by kernel_rfl), run_slice_hm w 35 A n c (show Try.prog.underlying 35 = some (.slice (Try.prog.elem 35)) from by kernel_rfl) .i64 .i64 (k : Int) (k : Int) (by omega) (by omega) (by omega), size_u8, Int.toNat_natCast, e]
    exact hK _ _ (h A' hs')
/-- xs[:k] -/
theorem wpList_to (hgd : o.guard = none) (x hi : Operand) (ho : o.op = .slice 35 x none (some hi) none) {A : Option Addr} {n c k : Nat} (hx : a.eval x = .slice A n c) (hhi : a.eval hi = .int .i64 k) {B : Nat} {xs : List Int} (hs : SlB w B A n xs) (hk : k ≤ n) (hc : n ≤ c)
    (h : ∀ A', SlB w B A' k (xs.take k) → wpList Try.prog ops Q rest (a.put o.dst (.slice A' k c)) w) : wpList Try.prog ops Q (o :: rest) a w :=
  wpList_plain hgd fun _ hK => by
    obtain ⟨A', e, hs'⟩ := hs.to k c hk (by omega)
    unfold Oper.wp execOp
    simp only [ho, Option.map_some, Option.map_none, hx, hhi, Sem.run_bind, Sem.run_pure, Result.andThen_ok, run_sliceAt_slice w 35 _ _ _ _ (show Try.prog.underlying 35 = some (.slice (Try.prog.elem 35)) from by kernel_rfl), run_slice_h w 35 A n c (show Try.prog.underlying 35 = some (.slice (Try.prog.elem 35)) from by kernel_rfl) .i64 (k : Int) (by omega) (by omega), size_u8, Int.toNat_natCast, e]
    exact hK _ _ (h A' hs')
end
end Go.Proofs.Ytakajahogjeiaab.Wk
