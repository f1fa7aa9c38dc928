/- Walks: tube.At$1, slices.IndexFunc at slices; what a tube has at a time, as a plain function. -/
import Derived.Test.YteabdeohhmbclaaGreatGaDy
namespace Go.Proofs.YteabdeohhmbclaaGreat.Wk
open Go.RowKit Go.Proofs.Pl Go.Proofs.YteabdeohhmbclaaGreatW.PrintLast
set_option linter.unusedSimpArgs false
set_option linter.unusedVariables false

def idxT (x : Num) (xs : List Slc) : Int := match xs.findIdx? (fun y => decide (cmpN x y.e < 0)) with | some k => k | none => -1
theorem idxT_some {x : Num} {xs : List Slc} {k : Nat} {y : Slc} (h : ∀ j z, j < k → xs[j]? = some z → decide (cmpN x z.e < 0) = false) (hk : xs[k]? = some y) (hy : decide (cmpN x y.e < 0) = true) : idxT x xs = k := by
 unfold idxT
 have hl := (List.getElem?_eq_some_iff.1 hk).1
 rw [show xs.findIdx? (fun y => decide (cmpN x y.e < 0)) = some k from ?_]
 rw [List.findIdx?_eq_some_iff_getElem]
 refine ⟨hl, ?_, fun j hj => ?_⟩
 ·rw [(List.getElem?_eq_some_iff.1 hk).2]; exact hy
 ·have := h j _ hj (List.getElem?_eq_getElem (by omega))
  simpa using this
theorem idxT_none {x : Num} {xs : List Slc} (h : ∀ j z, j < xs.length → xs[j]? = some z → decide (cmpN x z.e < 0) = false) : idxT x xs = -1 := by
 unfold idxT
 rw [show xs.findIdx? (fun y => decide (cmpN x y.e < 0)) = none from ?_]
 rw [List.findIdx?_eq_none_iff]
 intro z hz
 obtain ⟨j, hj, rfl⟩ := List.getElem_of_mem hz
 exact h j _ hj (List.getElem?_eq_getElem hj)
set_option maxRecDepth 100000 in
set_option maxHeartbeats 4000000 in
theorem at1_calls (G : Nat) (x0 : Int) (x1 : Bool) (x2 x3 : Int) (y0 : Int) (y1 : Bool) (y2 y3 : Int) (a0 : Bool) (a1 : Int) (a2 : Bool) (a3 a4 a5 : Int) (a6 : Bool) (a7 a8 : Int) (o0 : Bool) (o1 : Int) (o2 : Bool) (o3 o4 o5 : Int) (o6 : Bool) (o7 o8 : Int) (w : World) (hG : Blk w G 32 #[.i x0, .b x1, .u x2, .i x3]) :
  Calls Tryz.prog 101 #[.agg #[.i y0, .b y1, .u y2, .i y3, .b a0, .i a1, .b a2, .u a3, .i a4, .i a5, .b a6, .u a7, .i a8, .b o0, .i o1, .b o2, .u o3, .i o4, .i o5, .b o6, .u o7, .i o8], .pointer (some ⟨G, 0, none⟩)] w fun e w' => e = .returned (.b (decide (cmpN ⟨x0, x1, x2, x3⟩ ⟨y0, y1, y2, y3⟩ < 0))) ∧ Below w.heap.size w w' := by
 have HC := Lib.hid (fun W => cmpN_calls x0 x1 x2 x3 y0 y1 y2 y3 W)
 generalize cmpN ⟨x0, x1, x2, x3⟩ ⟨y0, y1, y2, y3⟩ = cm at HC ⊢
 have hl := hG.lt
 have HB := bl_alloc (Below.refl w.heap.size w) (.cells #[.i y0, .b y1, .u y2, .i y3, .b a0, .i a1, .b a2, .u a3, .i a4, .i a5, .b a6, .u a7, .i a8, .b o0, .i o1, .b o2, .u o3, .i o4, .i o5, .b o6, .u o7, .i o8] 62)
 obtain ⟨⟨q0, q1, q2, q3⟩, _⟩ := hG.c4
 go_enter Tryz.func101, Tryz.ntmps101
 go_wp2_with (go_at_call 28; (with_reducible refine (HC.out _).mono ?_); rintro e w1 ⟨rfl, hb⟩; have HB1 := bl_trans HB hb; clear hb)
 all_goals go_ret
 all_goals exact ⟨by first | rfl | simp, HB1⟩
theorem at1X_calls (G : Nat) (x0 : Int) (x1 : Bool) (x2 x3 : Int) (y : Slc) (w : World) (hG : Blk w G 32 #[.i x0, .b x1, .u x2, .i x3]) :
  Calls Tryz.prog 101 #[.agg (slcCells y).toArray, .pointer (some ⟨G, 0, none⟩)] w fun e w' => e = .returned (.b (decide (cmpN ⟨x0, x1, x2, x3⟩ y.e < 0))) ∧ Below w.heap.size w w' := by
 obtain ⟨⟨y0, y1, y2, y3⟩, ⟨a0, ⟨a1, a2, a3, a4⟩, ⟨a5, a6, a7, a8⟩⟩, ⟨o0, ⟨o1, o2, o3, o4⟩, ⟨o5, o6, o7, o8⟩⟩⟩ := y
 exact at1_calls G x0 x1 x2 x3 y0 y1 y2 y3 a0 a1 a2 a3 a4 a5 a6 a7 a8 o0 o1 o2 o3 o4 o5 o6 o7 o8 w hG
set_option maxRecDepth 100000 in
set_option maxHeartbeats 4000000 in
theorem indexT_calls (G : Nat) (x0 : Int) (x1 : Bool) (x2 x3 : Int) (A : Option Addr) (n c : Nat) (xs : List Slc) (w : World) (hG : Blk w G 32 #[.i x0, .b x1, .u x2, .i x3]) (hs : SlT w w.heap.size A n xs) (hn : n ≤ 1000) :
  Calls Tryz.prog 100 #[.slice A n c, .func (.func 101) #[] #[.pointer (some ⟨G, 0, none⟩)]] w fun e w' => e = .returned (.i (idxT ⟨x0, x1, x2, x3⟩ xs)) ∧ Below w.heap.size w w' := by
 go_enter Tryz.func100, Tryz.ntmps100
 go_wp2
 go_loopw [5, 8] (fun _ i wr => ∃ k : Nat, k ≤ n ∧ i = .i k ∧ (∀ j z, j < k → xs[j]? = some z → decide (cmpN ⟨x0, x1, x2, x3⟩ z.e < 0) = false) ∧ Below w.heap.size w wr) (fun _ i _ => n - (intOf i).toNat)
 case atStart => exact ⟨0, Nat.zero_le _, rfl, fun j x hj => absurd hj (Nat.not_lt_zero _), Below.refl _ _⟩
 case round =>
  obtain ⟨k, hk, rfl, hall, HB⟩ := hrel
  have Hall := Lib.hid hall
  clear hall
  by_cases hlt : k < n
  ·obtain ⟨b, off, y, rfl, hbB, hx, hc⟩ := (hs.below HB).at_ hlt
   have hrg : World.rangeAt wr b (off + k * 22) (slcCells y) := fun j u hu => hc j u hu
   have Hx := Lib.hid hx
   have Hs := Lib.hid hs
   have HO := Lib.hid (at1X_calls G x0 x1 x2 x3 y wr (hG.call HB))
   clear hx hs hc
   generalize hp : decide (cmpN ⟨x0, x1, x2, x3⟩ y.e < 0) = p at HO
   have Hp : ∀ q : Bool, p = q → Hid (decide (cmpN ⟨x0, x1, x2, x3⟩ y.e < 0) = q) := fun q e => hp.trans e
   clear hp
   cases p
   ·have hpe := Hp false rfl
    clear Hp
    go_wp2_with (first
     | (refine wpList_loadT rfl (.tmp 14) rfl b (off + k * 22) rfl y hrg ?_)
     | (go_at_call 101; (with_reducible refine HO.out.mono ?_); rintro e w1 ⟨rfl, hb⟩; have HB1 := bl_trans HB hb; clear hb))
    go_roundw
    case rel =>
     refine ⟨k + 1, by omega, by go_num, fun j y hj hy => ?_, HB1⟩
     by_cases e : j = k
     ·subst e
      rw [Hx.out] at hy
      cases hy
      exact hpe.out
     ·exact Hall.out j y (by omega) hy
    case measure => simp [intOf]; omega
   ·have hpe := Hp true rfl
    clear Hp
    go_wp2_with (first
     | (refine wpList_loadT rfl (.tmp 14) rfl b (off + k * 22) rfl y hrg ?_)
     | (go_at_call 101; (with_reducible refine HO.out.mono ?_); rintro e w1 ⟨rfl, hb⟩; have HB1 := bl_trans HB hb; clear hb))
    go_ret
    rw [idxT_some Hall.out Hx.out hpe.out]
    exact ⟨rfl, HB1⟩
  ·have hkn : k = n := by omega
   subst hkn
   go_wp2
   go_ret
   rw [idxT_none (fun j z hj hz => Hall.out j z (by have := hs.1; omega) hz)]
   exact ⟨rfl, HB⟩
def atT (s : Num) (i : Iv) (xs : List Slc) (x : Num) : Iv :=
 if mayT ⟨s, i, xs⟩ = true then
  match (gatesL s i xs (xs.length + 1)).find? (fun g => cmpN x g.2.1 == 0) with
  | some g => g.2.2
  | none => if idxT x xs < 0 ∨ cmpN x s < 0 then allI else (sliceAt xs (idxT x xs).toNat).a
 else noneI
end Go.Proofs.YteabdeohhmbclaaGreat.Wk
