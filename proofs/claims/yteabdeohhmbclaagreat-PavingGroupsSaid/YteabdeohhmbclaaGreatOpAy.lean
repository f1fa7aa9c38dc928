/- Walks: ivop.none, ivop.Neg. -/
import Derived.Test.YteabdeohhmbclaaGreatTuXy
import Derived.Test.YteabdeohhmbclaaGreatPureAy
import Derived.Test.YteabdeohhmbclaaGreatBoxAy
namespace Go.Proofs.YteabdeohhmbclaaGreat.Wk
open Go.RowKit Go.Proofs.Pl Go.Proofs.YteabdeohhmbclaaGreatW.PrintLast
set_option linter.unusedSimpArgs false
set_option linter.unusedVariables false

theorem emptyB_drop {xs : List Iv} {k : Nat} {x : Iv} (hx : xs[k]? = some x) : emptyB (xs.drop k) = (noneB x || emptyB (xs.drop (k + 1))) := by
 unfold emptyB
 rw [List.drop_eq_getElem?_toList_append, hx]
 rfl
set_option maxRecDepth 100000 in
set_option maxHeartbeats 4000000 in
theorem opnone_calls (A : Option Addr) (n c : Nat) (xs : List Iv) (w : World) (hs : SlI w w.heap.size A n xs) (hn : n ≤ 1000) :
  Calls Tryz.prog 99 #[.slice A n c] w fun e w' => e = .returned (.b (emptyB xs)) ∧ Below w.heap.size w w' := by
 go_enter Tryz.func99, Tryz.ntmps99
 go_wp2
 go_loopw [7] (fun i wr => ∃ k : Nat, k ≤ n ∧ i = .i k ∧ emptyB xs = emptyB (xs.drop k) ∧ Below w.heap.size w wr) (fun i _ => n - (intOf i).toNat)
 case atStart => exact ⟨0, Nat.zero_le _, rfl, rfl, Below.refl _ _⟩
 case round =>
  obtain ⟨k, hk, rfl, hall, HB⟩ := hrel
  by_cases hlt : k < n
  ·obtain ⟨b, off, x, rfl, hbB, hx, e0, e1, e2, e3, e4, e5, e6, e7, e8⟩ := (hs.below HB).at_ hlt
   rw [emptyB_drop hx] at hall
   have hb0 : b < wr.heap.size := Nat.lt_of_lt_of_le hbB HB.size
   replace hs := Lib.hid hs
   clear hx
   obtain ⟨x0, ⟨x1, x2, x3, x4⟩, ⟨x5, x6, x7, x8⟩⟩ := x
   have HQ := (fun W => mayI_calls x0 x1 x2 x3 x4 x5 x6 x7 x8 W)
   have hq : noneB ⟨x0, ⟨x1, x2, x3, x4⟩, ⟨x5, x6, x7, x8⟩⟩ = (x0 || !mayI ⟨x0, ⟨x1, x2, x3, x4⟩, ⟨x5, x6, x7, x8⟩⟩) := rfl
   rw [hq] at hall
   clear hq
   dsimp only at e0 e1 e2 e3 e4 e5 e6 e7 e8
   generalize mayI ⟨x0, ⟨x1, x2, x3, x4⟩, ⟨x5, x6, x7, x8⟩⟩ = q at HQ hall
   replace hall := Lib.hid hall
   replace HQ := Lib.hid HQ
   have HB2 := bl_alloc HB (.cells #[.b x0, .i x1, .b x2, .u x3, .i x4, .i x5, .b x6, .u x7, .i x8] 34)
   cases x0
   ·cases q
    ·go_wp2_with (first
      | (refine wpList_stG rfl 34 (.tmp 4) (.tmp 10) rfl wr.heap.size _ #[.b false, .i x1, .b x2, .u x3, .i x4, .i x5, .b x6, .u x7, .i x8] (Blk.new wr _ _) rfl rfl (by kernel_rfl) rfl (by simp [Value.oneCell']) ?_; intro W2 X2 P2; have HB3 := P2.bel (bl_alloc HB _) (by have := HB.size; omega); obtain ⟨⟨q0, q1, q2, q3, q4, q5, q6, q7, q8⟩, _⟩ := X2.c9; clear e0 e1 e2 e3 e4 e5 e6 e7 e8)
      | (go_at_call 27; (with_reducible refine (HQ.out _).mono ?_); rintro e' w1 ⟨rfl, hb⟩; have HB4 := bl_trans HB3 hb))
     go_ret
     exact ⟨ret_boolC (by rw [hall.out]; rfl), HB4⟩
    ·go_wp2_with (first
      | (refine wpList_stG rfl 34 (.tmp 4) (.tmp 10) rfl wr.heap.size _ #[.b false, .i x1, .b x2, .u x3, .i x4, .i x5, .b x6, .u x7, .i x8] (Blk.new wr _ _) rfl rfl (by kernel_rfl) rfl (by simp [Value.oneCell']) ?_; intro W2 X2 P2; have HB3 := P2.bel (bl_alloc HB _) (by have := HB.size; omega); obtain ⟨⟨q0, q1, q2, q3, q4, q5, q6, q7, q8⟩, _⟩ := X2.c9; clear e0 e1 e2 e3 e4 e5 e6 e7 e8)
      | (go_at_call 27; (with_reducible refine (HQ.out _).mono ?_); rintro e' w1 ⟨rfl, hb⟩; have HB4 := bl_trans HB3 hb))
     refine ⟨⟨k + 1, by omega, by go_num, by rw [hall.out]; rfl, HB4⟩, by simp [intOf]; omega⟩
   ·go_wp2_with (refine wpList_stG rfl 34 (.tmp 4) (.tmp 10) rfl wr.heap.size _ #[.b true, .i x1, .b x2, .u x3, .i x4, .i x5, .b x6, .u x7, .i x8] (Blk.new wr _ _) rfl rfl (by kernel_rfl) rfl (by simp [Value.oneCell']) ?_; intro W2 X2 P2; have HB3 := P2.bel (bl_alloc HB _) (by have := HB.size; omega); obtain ⟨⟨q0, q1, q2, q3, q4, q5, q6, q7, q8⟩, _⟩ := X2.c9; clear e0 e1 e2 e3 e4 e5 e6 e7 e8)
    go_ret
    exact ⟨ret_boolC (by rw [hall.out]; rfl), HB3⟩
  ·obtain rfl : k = n := by omega
   rw [List.drop_eq_nil_of_le (by rw [hs.1]; exact Nat.le_refl _)] at hall
   replace hall := Lib.hid hall
   clear hs
   go_wp2
   go_ret
   exact ⟨ret_boolC (by rw [hall.out]; rfl), HB⟩
end Go.Proofs.YteabdeohhmbclaaGreat.Wk
