/- Walks: num.Most, num.Least, for every slice of numbers. -/
import Derived.Test.YteabdeohhmbclaaGreatIvAy
import Derived.Test.YteabdeohhmbclaaGreatBsAy
namespace Go.Proofs.YteabdeohhmbclaaGreat.Wk
open Go.RowKit Go.Proofs.Pl Go.Proofs.YteabdeohhmbclaaGreatW.PrintLast
set_option linter.unusedSimpArgs false
set_option linter.unusedVariables false

set_option maxRecDepth 100000 in
set_option maxHeartbeats 4000000 in
theorem mostN_calls (A : Option Addr) (n c : Nat) (xs : List Num) (w : World) (hs : SlN w w.heap.size A n xs) (hn : n ≤ 4611686018427387904) :
  Calls Tryz.prog 36 #[.slice A n c] w fun e w' => e = .returned (.agg #[.i (mostN xs).k, .b (mostN xs).n, .u (mostN xs).m, .i (mostN xs).e]) ∧ Below w.heap.size w w' := by
 go_enter Tryz.func36, Tryz.ntmps36
 go_wp2_with (go_at_call 54; refine (infN_lit true _).mono ?_; rintro e w1 ⟨rfl, hb⟩; have BR1 := (Blk.new w _ _).call hb; have HB1 := bl_trans (bl_alloc (Below.refl w.heap.size w) _) hb; have hz : w.heap.size < w1.heap.size := (by have := hb.size; simp at this; omega); clear hb)
 have BO0 := Blk.new w1 32 #[.i 2, .b true, .u 0, .i 0]
 have BR0 := BR1.alloc (.cells #[.i 2, .b true, .u 0, .i 0] 32)
 have HB0 := bl_alloc HB1 (.cells #[.i 2, .b true, .u 0, .i 0] 32)
 clear HB1 BR1
 generalize (w1.alloc (.cells #[.i 2, .b true, .u 0, .i 0] 32)) = W1 at BO0 BR0 HB0 ⊢
 generalize w1.heap.size = OB at BO0 hz ⊢
 go_loopw [9] (fun i wr => ∃ k : Nat, k ≤ n ∧ i = .i k ∧ ∃ o0 o1 o2 o3, (⟨o0, o1, o2, o3⟩ : Num) = (xs.take k).foldl mostStep (infN true) ∧ Blk wr OB 32 #[.i o0, .b o1, .u o2, .i o3] ∧ Blk wr w.heap.size 32 #[.i 0, .b false, .u 0, .i 0] ∧ Below w.heap.size w wr) (fun i _ => n - (intOf i).toNat)
 case atStart => exact ⟨0, Nat.zero_le _, rfl, 2, true, 0, 0, rfl, BO0, BR0, HB0⟩
 case round =>
  obtain ⟨k, hk, rfl, o0, o1, o2, o3, ho, BO, BR, HB⟩ := hrel
  have Ho := Lib.hid ho
  clear ho BO0 BR0 HB0
  by_cases hlt : k < n
  ·obtain ⟨b, off, ⟨x0, x1, x2, x3⟩, rfl, hbB, hx, e0, e1, e2, e3⟩ := (hs.below HB).at_ hlt
   have hst : (xs.take (k + 1)).foldl mostStep (infN true) = if 0 < cmpN ⟨x0, x1, x2, x3⟩ ⟨o0, o1, o2, o3⟩ then fairN ⟨x0, x1, x2, x3⟩ else ⟨o0, o1, o2, o3⟩ := by
    rw [foldl_take_succ _ _ xs k _ hx, ← Ho.out]; rfl
   have Hs := Lib.hid hst
   clear hst hx
   have hbW : b < wr.heap.size := Nat.lt_of_lt_of_le hbB HB.size
   have HC := Lib.hid (fun W => cmpN_calls x0 x1 x2 x3 o0 o1 o2 o3 W)
   have HF := Lib.hid (fun W => fairN_calls x0 x1 x2 x3 W)
   generalize cmpN ⟨x0, x1, x2, x3⟩ ⟨o0, o1, o2, o3⟩ = r at HC Hs
   generalize fairN ⟨x0, x1, x2, x3⟩ = f at HF Hs
   obtain ⟨f0, f1, f2, f3⟩ := f
   dsimp only at HF
   obtain ⟨⟨y0, y1, y2, y3⟩, _⟩ := BO.c4
   have hOl := BO.lt
   by_cases hr : 0 < r
   ·go_wp2_with (first
     | (go_at_call 28; refine (HC.out _).mono ?_; rintro e w2 ⟨rfl, hb⟩; have BO2 := (BO.alloc _).call hb; have BR2 := (BR.alloc _).call hb; have BX2 := (Blk.new wr _ _).call hb; have HB2 := bl_trans (bl_alloc HB _) hb; obtain ⟨⟨q0, q1, q2, q3⟩, _⟩ := BX2.c4; clear hb)
     | (go_at_call 55; refine (HF.out _).mono ?_; rintro e w3 ⟨rfl, hb⟩; have BO3 := BO2.call hb; have BR3 := BR2.call hb; have HB3 := bl_trans HB2 hb; obtain ⟨W4, hW4, BO4, hK, hL, _⟩ := put4 BO3 (.i f0) (.b f1) (.u f2) (.i f3); have BR4 := hK _ _ _ (Nat.ne_of_lt hz) BR3; have HB4 := hL w HB3 (Nat.le_of_lt hz); obtain ⟨⟨p0, p1, p2, p3⟩, ⟨g0, g1, g2, g3⟩⟩ := BO3.c4; clear hb BO2 BR2 BX2 HB2 BO3 BR3 HB3 hK hL))
    go_roundw
    case rel => exact ⟨k + 1, by omega, by go_num, f0, f1, f2, f3, by rw [Hs.out, if_pos hr], BO4, BR4, HB4⟩
    case measure => simp [intOf]; omega
   ·go_wp2_with (go_at_call 28; refine (HC.out _).mono ?_; rintro e w2 ⟨rfl, hb⟩; have BO2 := (BO.alloc _).call hb; have BR2 := (BR.alloc _).call hb; have HB2 := bl_trans (bl_alloc HB _) hb; clear hb)
    go_roundw
    case rel => exact ⟨k + 1, by omega, by go_num, o0, o1, o2, o3, by rw [Hs.out, if_neg (by omega)], BO2, BR2, HB2⟩
    case measure => simp [intOf]; omega
  ·have hkn : k = n := by omega
   have Hf : Hid ((⟨o0, o1, o2, o3⟩ : Num) = mostN xs) := by
    have h1 := Ho.out
    rw [List.take_of_length_le (by have := hs.1; omega)] at h1
    exact h1
   clear Ho hkn
   have hlt' : n ≤ k := by omega
   obtain ⟨W4, hW4, BR4, _, hL, _⟩ := put4 BR (.i o0) (.b o1) (.u o2) (.i o3)
   have HB4 := hL w HB (Nat.le_refl _)
   obtain ⟨⟨q0, q1, q2, q3⟩, _⟩ := BO.c4
   obtain ⟨⟨p0, p1, p2, p3⟩, ⟨g0, g1, g2, g3⟩⟩ := BR.c4
   go_wp2
   refine bodyPost_ret (results_cell_row rfl _ _ w.heap.size 32 #[.i o0, .b o1, .u o2, .i o3] (0, 0) _ rfl BR4 Tryz.underlying32 rfl (by kernel_rfl)) rfl ⟨?_, HB4⟩
   rw [← Hf.out]

set_option maxRecDepth 100000 in
set_option maxHeartbeats 4000000 in
theorem leastN_calls (A : Option Addr) (n c : Nat) (xs : List Num) (w : World) (hs : SlN w w.heap.size A n xs) (hn : n ≤ 4611686018427387904) :
  Calls Tryz.prog 37 #[.slice A n c] w fun e w' => e = .returned (.agg #[.i (leastN xs).k, .b (leastN xs).n, .u (leastN xs).m, .i (leastN xs).e]) ∧ Below w.heap.size w w' := by
 go_enter Tryz.func37, Tryz.ntmps37
 go_wp2_with (go_at_call 54; refine (infN_lit false _).mono ?_; rintro e w1 ⟨rfl, hb⟩; have BR1 := (Blk.new w _ _).call hb; have HB1 := bl_trans (bl_alloc (Below.refl w.heap.size w) _) hb; have hz : w.heap.size < w1.heap.size := (by have := hb.size; simp at this; omega); clear hb)
 have BO0 := Blk.new w1 32 #[.i 2, .b false, .u 0, .i 0]
 have BR0 := BR1.alloc (.cells #[.i 2, .b false, .u 0, .i 0] 32)
 have HB0 := bl_alloc HB1 (.cells #[.i 2, .b false, .u 0, .i 0] 32)
 clear HB1 BR1
 generalize (w1.alloc (.cells #[.i 2, .b false, .u 0, .i 0] 32)) = W1 at BO0 BR0 HB0 ⊢
 generalize w1.heap.size = OB at BO0 hz ⊢
 go_loopw [9] (fun i wr => ∃ k : Nat, k ≤ n ∧ i = .i k ∧ ∃ o0 o1 o2 o3, (⟨o0, o1, o2, o3⟩ : Num) = (xs.take k).foldl leastStep (infN false) ∧ Blk wr OB 32 #[.i o0, .b o1, .u o2, .i o3] ∧ Blk wr w.heap.size 32 #[.i 0, .b false, .u 0, .i 0] ∧ Below w.heap.size w wr) (fun i _ => n - (intOf i).toNat)
 case atStart => exact ⟨0, Nat.zero_le _, rfl, 2, false, 0, 0, rfl, BO0, BR0, HB0⟩
 case round =>
  obtain ⟨k, hk, rfl, o0, o1, o2, o3, ho, BO, BR, HB⟩ := hrel
  have Ho := Lib.hid ho
  clear ho BO0 BR0 HB0
  by_cases hlt : k < n
  ·obtain ⟨b, off, ⟨x0, x1, x2, x3⟩, rfl, hbB, hx, e0, e1, e2, e3⟩ := (hs.below HB).at_ hlt
   have hst : (xs.take (k + 1)).foldl leastStep (infN false) = if cmpN ⟨x0, x1, x2, x3⟩ ⟨o0, o1, o2, o3⟩ < 0 then fairN ⟨x0, x1, x2, x3⟩ else ⟨o0, o1, o2, o3⟩ := by
    rw [foldl_take_succ _ _ xs k _ hx, ← Ho.out]; rfl
   have Hs := Lib.hid hst
   clear hst hx
   have hbW : b < wr.heap.size := Nat.lt_of_lt_of_le hbB HB.size
   have HC := Lib.hid (fun W => cmpN_calls x0 x1 x2 x3 o0 o1 o2 o3 W)
   have HF := Lib.hid (fun W => fairN_calls x0 x1 x2 x3 W)
   generalize cmpN ⟨x0, x1, x2, x3⟩ ⟨o0, o1, o2, o3⟩ = r at HC Hs
   generalize fairN ⟨x0, x1, x2, x3⟩ = f at HF Hs
   obtain ⟨f0, f1, f2, f3⟩ := f
   dsimp only at HF
   obtain ⟨⟨y0, y1, y2, y3⟩, _⟩ := BO.c4
   have hOl := BO.lt
   by_cases hr : r < 0
   ·go_wp2_with (first
     | (go_at_call 28; refine (HC.out _).mono ?_; rintro e w2 ⟨rfl, hb⟩; have BO2 := (BO.alloc _).call hb; have BR2 := (BR.alloc _).call hb; have BX2 := (Blk.new wr _ _).call hb; have HB2 := bl_trans (bl_alloc HB _) hb; obtain ⟨⟨q0, q1, q2, q3⟩, _⟩ := BX2.c4; clear hb)
     | (go_at_call 55; refine (HF.out _).mono ?_; rintro e w3 ⟨rfl, hb⟩; have BO3 := BO2.call hb; have BR3 := BR2.call hb; have HB3 := bl_trans HB2 hb; obtain ⟨W4, hW4, BO4, hK, hL, _⟩ := put4 BO3 (.i f0) (.b f1) (.u f2) (.i f3); have BR4 := hK _ _ _ (Nat.ne_of_lt hz) BR3; have HB4 := hL w HB3 (Nat.le_of_lt hz); obtain ⟨⟨p0, p1, p2, p3⟩, ⟨g0, g1, g2, g3⟩⟩ := BO3.c4; clear hb BO2 BR2 BX2 HB2 BO3 BR3 HB3 hK hL))
    go_roundw
    case rel => exact ⟨k + 1, by omega, by go_num, f0, f1, f2, f3, by rw [Hs.out, if_pos hr], BO4, BR4, HB4⟩
    case measure => simp [intOf]; omega
   ·go_wp2_with (go_at_call 28; refine (HC.out _).mono ?_; rintro e w2 ⟨rfl, hb⟩; have BO2 := (BO.alloc _).call hb; have BR2 := (BR.alloc _).call hb; have HB2 := bl_trans (bl_alloc HB _) hb; clear hb)
    go_roundw
    case rel => exact ⟨k + 1, by omega, by go_num, o0, o1, o2, o3, by rw [Hs.out, if_neg (by omega)], BO2, BR2, HB2⟩
    case measure => simp [intOf]; omega
  ·have hkn : k = n := by omega
   have Hf : Hid ((⟨o0, o1, o2, o3⟩ : Num) = leastN xs) := by
    have h1 := Ho.out
    rw [List.take_of_length_le (by have := hs.1; omega)] at h1
    exact h1
   clear Ho hkn
   have hlt' : n ≤ k := by omega
   obtain ⟨W4, hW4, BR4, _, hL, _⟩ := put4 BR (.i o0) (.b o1) (.u o2) (.i o3)
   have HB4 := hL w HB (Nat.le_refl _)
   obtain ⟨⟨q0, q1, q2, q3⟩, _⟩ := BO.c4
   obtain ⟨⟨p0, p1, p2, p3⟩, ⟨g0, g1, g2, g3⟩⟩ := BR.c4
   go_wp2
   refine bodyPost_ret (results_cell_row rfl _ _ w.heap.size 32 #[.i o0, .b o1, .u o2, .i o3] (0, 0) _ rfl BR4 Tryz.underlying32 rfl (by kernel_rfl)) rfl ⟨?_, HB4⟩
   rw [← Hf.out]

end Go.Proofs.YteabdeohhmbclaaGreat.Wk
