/- The gates of a tube, one by one, and what an iterator over them must keep. -/
import Derived.Test.YteabdeohhmbclaaGreatFeXy
import Derived.Test.YteabdeohhmbclaaGreatPureAy
import Derived.Test.YteabdeohhmbclaaGreatIvYy
import Derived.Test.YteabdeohhmbclaaGreatAwAy
namespace Go.Proofs.YteabdeohhmbclaaGreat.Wk
open Go.RowKit Go.Proofs.Pl Go.Proofs.YteabdeohhmbclaaGreatW.PrintLast
set_option linter.unusedSimpArgs false
set_option linter.unusedVariables false

def noneS : Slc := ⟨zero, noneI, noneI⟩
def sliceAt (xs : List Slc) (k : Nat) : Slc := xs.getD k noneS
def gNum (s : Num) (xs : List Slc) (k : Nat) : Num := if k = 0 then s else (sliceAt xs (k - 1)).e
def gIv0 (i : Iv) (xs : List Slc) (k : Nat) : Iv := if k = 0 then i else meet2 (sliceAt xs (k - 1)).o (sliceAt xs (k - 1)).a
def gIv (i : Iv) (xs : List Slc) (k : Nat) : Iv := if k < xs.length then meet2 (gIv0 i xs k) (sliceAt xs k).a else gIv0 i xs k
def gatesL (s : Num) (i : Iv) (xs : List Slc) (k : Nat) : List (Nat × Num × Iv) := (List.range k).map fun k => (k, gNum s xs k, gIv i xs k)
def gateCells (x : Num) (y : Iv) : List Value := [.i x.k, .b x.n, .u x.m, .i x.e, .b y.emp, .i y.lo.k, .b y.lo.n, .u y.lo.m, .i y.lo.e, .i y.hi.k, .b y.hi.n, .u y.hi.m, .i y.hi.e]
abbrev encG (x : Nat × Num × Iv) : Array Value := #[.i x.1, .agg (gateCells x.2.1 x.2.2).toArray]
def KpG (n₀ n₁ Bt : Nat) (W W' : World) : Prop := Below n₀ W W' ∧ W'.heap[Bt]? = W.heap[Bt]? ∧ ∀ g cs, n₁ ≤ g → Blk W g 122 cs → Blk W' g 122 cs
theorem KpG.trans {n₀ n₁ Bt : Nat} {X Y Z : World} (h : KpG n₀ n₁ Bt X Y) (k : KpG n₀ n₁ Bt Y Z) : KpG n₀ n₁ Bt X Z := ⟨h.1.trans k.1, k.2.1.trans h.2.1, fun g cs hg hb => k.2.2 g cs hg (h.2.2 g cs hg hb)⟩
theorem gatesL_length (s : Num) (i : Iv) (xs : List Slc) (k : Nat) : (gatesL s i xs k).length = k := by simp [gatesL]
theorem gatesL_succ (s : Num) (i : Iv) (xs : List Slc) (k : Nat) : gatesL s i xs (k + 1) = gatesL s i xs k ++ [(k, gNum s xs k, gIv i xs k)] := by
 unfold gatesL
 rw [List.range_succ, List.map_append]
 rfl
abbrev boxTs : List TypeId := [122, 62]
theorem grown_set {X Y : World} {g : Nat} (h : X.grownBy Y (some g)) (o : Nat) (v : Value) : X.grownBy (Y.setCell ⟨g, o, none⟩ v) (some g) :=
 h.trans ⟨rfl, rfl, rfl, by simp [World.setCell], fun k _ hk => Below.heap_setCell Y ⟨g, o, none⟩ v k (fun e => hk (by rw [e]))⟩
theorem Put.grown {a b : World} {g : Nat} (h : Put a b g) : a.grownBy b (some g) := ⟨h.1, h.2.1, h.2.2.1, Nat.le_of_eq h.size.symm, fun k _ hk => h.2.2.2.2 k (fun e => hk (by rw [e]))⟩
theorem grown_self (X : World) (row : Option Nat) : X.grownBy X row := ⟨rfl, rfl, rfl, Nat.le_refl _, fun _ _ _ => rfl⟩
theorem putG9 {w : World} {g : Nat} {t : TypeId} {a0 a1 a2 a3 x0 x1 x2 x3 x4 x5 x6 x7 x8 : Value} (h : Blk w g t #[a0, a1, a2, a3, x0, x1, x2, x3, x4, x5, x6, x7, x8]) (y0 y1 y2 y3 y4 y5 y6 y7 y8 : Value) :
  ∃ W, (((((((((w.setCell ⟨g, 4, none⟩ y0).setCell ⟨g, 5, none⟩ y1).setCell ⟨g, 6, none⟩ y2).setCell ⟨g, 7, none⟩ y3).setCell ⟨g, 8, none⟩ y4).setCell ⟨g, 9, none⟩ y5).setCell ⟨g, 10, none⟩ y6).setCell ⟨g, 11, none⟩ y7).setCell ⟨g, 12, none⟩ y8) = W ∧ Blk W g t #[a0, a1, a2, a3, y0, y1, y2, y3, y4, y5, y6, y7, y8] ∧ w.grownBy W (some g) := by
 refine ⟨_, rfl, ?_, ?_⟩
 ·have h4 := h
  have h5 := h4.set_ 4 y0
  simp only [List.setIfInBounds_toArray, List.set_cons_zero, List.set_cons_succ] at h5
  have h6 := h5.set_ 5 y1
  simp only [List.setIfInBounds_toArray, List.set_cons_zero, List.set_cons_succ] at h6
  have h7 := h6.set_ 6 y2
  simp only [List.setIfInBounds_toArray, List.set_cons_zero, List.set_cons_succ] at h7
  have h8 := h7.set_ 7 y3
  simp only [List.setIfInBounds_toArray, List.set_cons_zero, List.set_cons_succ] at h8
  have h9 := h8.set_ 8 y4
  simp only [List.setIfInBounds_toArray, List.set_cons_zero, List.set_cons_succ] at h9
  have h10 := h9.set_ 9 y5
  simp only [List.setIfInBounds_toArray, List.set_cons_zero, List.set_cons_succ] at h10
  have h11 := h10.set_ 10 y6
  simp only [List.setIfInBounds_toArray, List.set_cons_zero, List.set_cons_succ] at h11
  have h12 := h11.set_ 11 y7
  simp only [List.setIfInBounds_toArray, List.set_cons_zero, List.set_cons_succ] at h12
  have h13 := h12.set_ 12 y8
  simp only [List.setIfInBounds_toArray, List.set_cons_zero, List.set_cons_succ] at h13
  exact h13
 ·exact (grown_set (grown_set (grown_set (grown_set (grown_set (grown_set (grown_set (grown_set (grown_set (grown_self w (some g)) 4 y0) 5 y1) 6 y2) 7 y3) 8 y4) 9 y5) 10 y6) 11 y7) 12 y8)
theorem putG13 {w : World} {g : Nat} {t : TypeId} {x0 x1 x2 x3 x4 x5 x6 x7 x8 x9 x10 x11 x12 : Value} (h : Blk w g t #[x0, x1, x2, x3, x4, x5, x6, x7, x8, x9, x10, x11, x12]) (y0 y1 y2 y3 y4 y5 y6 y7 y8 y9 y10 y11 y12 : Value) :
  ∃ W, (((((((((((((w.setCell ⟨g, 0, none⟩ y0).setCell ⟨g, 1, none⟩ y1).setCell ⟨g, 2, none⟩ y2).setCell ⟨g, 3, none⟩ y3).setCell ⟨g, 4, none⟩ y4).setCell ⟨g, 5, none⟩ y5).setCell ⟨g, 6, none⟩ y6).setCell ⟨g, 7, none⟩ y7).setCell ⟨g, 8, none⟩ y8).setCell ⟨g, 9, none⟩ y9).setCell ⟨g, 10, none⟩ y10).setCell ⟨g, 11, none⟩ y11).setCell ⟨g, 12, none⟩ y12) = W ∧ Blk W g t #[y0, y1, y2, y3, y4, y5, y6, y7, y8, y9, y10, y11, y12] ∧ w.grownBy W (some g) := by
 refine ⟨_, rfl, ?_, ?_⟩
 ·have h0 := h
  have h1 := h0.set_ 0 y0
  simp only [List.setIfInBounds_toArray, List.set_cons_zero, List.set_cons_succ] at h1
  have h2 := h1.set_ 1 y1
  simp only [List.setIfInBounds_toArray, List.set_cons_zero, List.set_cons_succ] at h2
  have h3 := h2.set_ 2 y2
  simp only [List.setIfInBounds_toArray, List.set_cons_zero, List.set_cons_succ] at h3
  have h4 := h3.set_ 3 y3
  simp only [List.setIfInBounds_toArray, List.set_cons_zero, List.set_cons_succ] at h4
  have h5 := h4.set_ 4 y4
  simp only [List.setIfInBounds_toArray, List.set_cons_zero, List.set_cons_succ] at h5
  have h6 := h5.set_ 5 y5
  simp only [List.setIfInBounds_toArray, List.set_cons_zero, List.set_cons_succ] at h6
  have h7 := h6.set_ 6 y6
  simp only [List.setIfInBounds_toArray, List.set_cons_zero, List.set_cons_succ] at h7
  have h8 := h7.set_ 7 y7
  simp only [List.setIfInBounds_toArray, List.set_cons_zero, List.set_cons_succ] at h8
  have h9 := h8.set_ 8 y8
  simp only [List.setIfInBounds_toArray, List.set_cons_zero, List.set_cons_succ] at h9
  have h10 := h9.set_ 9 y9
  simp only [List.setIfInBounds_toArray, List.set_cons_zero, List.set_cons_succ] at h10
  have h11 := h10.set_ 10 y10
  simp only [List.setIfInBounds_toArray, List.set_cons_zero, List.set_cons_succ] at h11
  have h12 := h11.set_ 11 y11
  simp only [List.setIfInBounds_toArray, List.set_cons_zero, List.set_cons_succ] at h12
  have h13 := h12.set_ 12 y12
  simp only [List.setIfInBounds_toArray, List.set_cons_zero, List.set_cons_succ] at h13
  exact h13
 ·exact (grown_set (grown_set (grown_set (grown_set (grown_set (grown_set (grown_set (grown_set (grown_set (grown_set (grown_set (grown_set (grown_set (grown_self w (some g)) 0 y0) 1 y1) 2 y2) 3 y3) 4 y4) 5 y5) 6 y6) 7 y7) 8 y8) 9 y9) 10 y10) 11 y11) 12 y12)
theorem Blk.g9 {w : World} {g : Nat} {t : TypeId} {a0 a1 a2 a3 x0 x1 x2 x3 x4 x5 x6 x7 x8 : Value} (h : Blk w g t #[a0, a1, a2, a3, x0, x1, x2, x3, x4, x5, x6, x7, x8]) :
  w.cell? ⟨g, 4, none⟩ = some x0 ∧ w.cell? ⟨g, 5, none⟩ = some x1 ∧ w.cell? ⟨g, 6, none⟩ = some x2 ∧ w.cell? ⟨g, 7, none⟩ = some x3 ∧ w.cell? ⟨g, 8, none⟩ = some x4 ∧ w.cell? ⟨g, 9, none⟩ = some x5 ∧ w.cell? ⟨g, 10, none⟩ = some x6 ∧ w.cell? ⟨g, 11, none⟩ = some x7 ∧ w.cell? ⟨g, 12, none⟩ = some x8 :=
 ⟨h.cell 4, h.cell 5, h.cell 6, h.cell 7, h.cell 8, h.cell 9, h.cell 10, h.cell 11, h.cell 12⟩
theorem Blk.f9 {w : World} {g : Nat} {t : TypeId} {cs : Array Value} (h : Blk w g t cs) :
  w.frozen? ⟨g, 4, none⟩ = false ∧ w.frozen? ⟨g, 5, none⟩ = false ∧ w.frozen? ⟨g, 6, none⟩ = false ∧ w.frozen? ⟨g, 7, none⟩ = false ∧ w.frozen? ⟨g, 8, none⟩ = false ∧ w.frozen? ⟨g, 9, none⟩ = false ∧ w.frozen? ⟨g, 10, none⟩ = false ∧ w.frozen? ⟨g, 11, none⟩ = false ∧ w.frozen? ⟨g, 12, none⟩ = false :=
 ⟨h.frozen 4, h.frozen 5, h.frozen 6, h.frozen 7, h.frozen 8, h.frozen 9, h.frozen 10, h.frozen 11, h.frozen 12⟩
theorem StayT.below {β : Type} {B : Nat} {J : β → World → Prop} {Ts : List TypeId} (h : StayT B Ts J) {s : β} {X Y : World} (hs : J s X) (hb : Below X.heap.size X Y) : J s Y :=
 h s X Y none hs ⟨hb.os, hb.tape, hb.output, hb.size, fun k hk _ => hb.block k hk⟩ fun r e => by cases e
theorem StayT.box {β : Type} {B : Nat} {J : β → World → Prop} (h : StayT B boxTs J) {s : β} {X Y : World} {g : Nat} {cs : Array Value} (hs : J s X) (hg : X.grownBy Y (some g)) (hB : B ≤ g) (hb : Blk X g 122 cs) : J s Y :=
 h s X Y (some g) hs hg fun r e => by cases e; exact ⟨hB, cs, _, hb, by simp⟩
theorem StayT.putNew {β : Type} {B : Nat} {J : β → World → Prop} {Ts : List TypeId} (h : StayT B Ts J) {s : β} {X Y : World} {cs : Array Value} {t : TypeId} (hs : J s X) (hp : Put (X.alloc (.cells cs t)) Y X.heap.size) (hB : B ≤ X.heap.size) (ht : t ∈ Ts) : J s Y :=
 h s _ Y (some X.heap.size) (StayT.below h hs ((Below.refl _ X).alloc (Nat.le_refl _) _)) hp.grown fun r e => by cases e; exact ⟨hB, cs, t, Blk.new X _ _, ht⟩
theorem grown_bel {n g : Nat} {X Y : World} (h : X.grownBy Y (some g)) (hn : n ≤ g) (hg : n ≤ X.heap.size) : Below n X Y :=
 ⟨h.os, h.tape, h.output, h.size, fun k hk => h.block k (by omega) (by intro e; cases e; omega)⟩
def GBox (W : World) (b k : Nat) (s : Num) (i : Iv) : Prop := ∃ u : Num, ∃ v : Iv, Blk W b 122 (gateCells u v).toArray ∧ (k = 0 → u = s ∧ v = i)
end Go.Proofs.YteabdeohhmbclaaGreat.Wk
