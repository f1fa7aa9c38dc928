/- Walks: arith.lower. -/
import Derived.Test.YtagojbgmgkkdpaaGreatAriB
namespace Go.Proofs.YtagojbgmgkkdpaaGreat.Wk
open Go.RowKit Go.Proofs.Pl Go.Proofs.YtagojbgmgkkdpaaGreatW.PrintLast
set_option linter.unusedSimpArgs false
set_option linter.unusedVariables false

theorem wrap_i {n : Int} (h0 : -9223372036854775808 ≤ n) (h1 : n < 9223372036854775808) : IntKind.i64.wrap n = n := by
 unfold IntKind.wrap
 simp only [IntKind.bits, IntKind.signed, Bool.true_and, ge_iff_le, decide_eq_true_eq]
 split <;> omega
theorem wrap_u (n : Int) : IntKind.u64.wrap n = n % 18446744073709551616 := rfl
theorem cast_shr (m k : Nat) : (m : Int) / 2 ^ k = ((m / 2 ^ k : Nat) : Int) := by rw [Int.natCast_ediv, Int.natCast_pow]; rfl
theorem cast_shl (m k : Nat) : IntKind.u64.wrap ((m : Int) * 2 ^ k) = ((m * 2 ^ k % 18446744073709551616 : Nat) : Int) := by
 rw [wrap_u, Int.natCast_emod, Int.natCast_mul, Int.natCast_pow]; rfl
set_option maxRecDepth 100000 in
set_option maxHeartbeats 2000000 in
theorem lower_calls (m d : Nat) (hm : m < 18446744073709551616) (hd : d ≤ 4194304) (w : World) :
  Calls Tryz.prog 121 #[.int .u64 m, .int .i64 d] w fun x w' => x = .returned (.agg #[.int .u64 (lowHi m d), .int .u64 (lowLo m d), .bool (lowCut m d)]) ∧ Below w.heap.size w w' := by
 have BR := (Blk.new w 143 #[.int .u64 0, .int .u64 0, .bool false])
 have HB0 := bl_alloc (Below.refl w.heap.size w) (.cells #[.int .u64 0, .int .u64 0, .bool false] 143)
 by_cases h1 : d < 64
 ·have h1i : (d : Int) < 64 := by omega
  have hw : IntKind.i64.wrap (64 - (d : Int)) = ((64 - d : Nat) : Int) := by rw [wrap_i (by omega) (by omega)]; omega
  have hv : (m : Int) / 2 ^ d = (lowHi m d : Int) := by unfold lowHi; rw [if_pos h1]; exact cast_shr m d
  have hs : IntKind.u64.wrap ((m : Int) * 2 ^ (64 - d)) = (lowLo m d : Int) := by unfold lowLo; rw [if_pos h1]; exact cast_shl m (64 - d)
  have hc : lowCut m d = false := by unfold lowCut; rw [if_pos h1]
  rw [hc]
  generalize lowHi m d = hi at hv ⊢
  generalize lowLo m d = lo at hs ⊢
  go_enter Tryz.func121, Tryz.ntmps121
  go_wp2_with fail
  refine start_ (n := 9) (S := fun w' => True) (ds := [8]) (bq 9 0) (by kernel_rfl) rfl rfl trivial (fun hHeld => ?_)
  refine pure_ (i := 0) (N := some 8) (v := ?_) (a' := ?_) (bq 9 1) rfl rfl (by kernel_rfl) (fun _ _ _ h => h) (Or.inl ⟨by rfl, ?_⟩) ?_ ?_
  rotate_left
  ·intro w'
   go_simp
   with_reducible rfl
  rotate_left
  ·simp only [Act.put, pA, pB, pC]
   rfl
  refine pure_ (i := 1) (N := some 9) (v := ?_) (a' := ?_) (bq 9 3) rfl rfl (by kernel_rfl) (fun _ _ _ h => h) (Or.inl ⟨by rfl, ?_⟩) ?_ ?_
  rotate_left
  ·intro w'
   go_simp
   with_reducible rfl
  rotate_left
  ·simp only [Act.put, pA, pB, pC]
   rfl
  refine pure_ (i := 2) (N := some 10) (v := ?_) (a' := ?_) (bq 9 7) rfl rfl (by kernel_rfl) (fun _ _ _ h => h) (Or.inl ⟨by rfl, ?_⟩) ?_ ?_
  rotate_left
  ·intro w'
   go_simp
   with_reducible rfl
  rotate_left
  ·simp only [Act.put, pA, pB, pC]
   rfl
  refine pure_ (i := 3) (N := some 11) (v := ?_) (a' := ?_) (bq 9 15) rfl rfl (by kernel_rfl) (fun _ _ _ h => h) (Or.inl ⟨by rfl, ?_⟩) ?_ ?_
  rotate_left
  ·intro w'
   go_simp
   with_reducible rfl
  rotate_left
  ·simp only [Act.put, pA, pB, pC]
   rfl
  refine pure_ (i := 4) (N := some 12) (v := ?_) (a' := ?_) (bq 9 31) rfl rfl (by kernel_rfl) (fun _ _ _ h => h) (Or.inl ⟨by rfl, ?_⟩) ?_ ?_
  rotate_left
  ·intro w'
   go_simp
   with_reducible rfl
  rotate_left
  ·simp only [Act.put, pA, pB, pC]
   rfl
  refine pure_ (i := 5) (N := some 13) (v := ?_) (a' := ?_) (bq 9 63) rfl rfl (by kernel_rfl) (fun _ _ _ h => h) (Or.inl ⟨by rfl, ?_⟩) ?_ ?_
  rotate_left
  ·intro w'
   go_simp
   with_reducible rfl
  rotate_left
  ·simp only [Act.put, pA, pB, pC]
   rfl
  refine pure_ (i := 6) (N := some 14) (v := ?_) (a' := ?_) (bq 9 127) rfl rfl (by kernel_rfl) (fun _ _ _ h => h) (Or.inl ⟨by rfl, ?_⟩) ?_ ?_
  rotate_left
  ·intro w'
   go_simp
   with_reducible rfl
  rotate_left
  ·simp only [Act.put, pA, pB, pC]
   rfl
  refine pure_ (i := 7) (N := some 15) (v := ?_) (a' := ?_) (bq 9 255) rfl rfl (by kernel_rfl) (fun _ _ _ h => h) (Or.inl ⟨by rfl, ?_⟩) ?_ ?_
  rotate_left
  ·intro w'
   go_simp
   with_reducible rfl
  rotate_left
  ·simp only [Act.put, pA, pB, pC]
   rfl
  refine last_ (i := 8) (N := none) (bq 9 511) rfl rfl (by kernel_rfl) (by decide) (fun K hK => ?_)
  refine skip_ (w1 := ?_) (by rfl) rfl ?_ ?_
  rotate_left
  ·go_simp
   rfl
  refine hK.out _ _ ?_
  clear hK K
  refine done_ (by kernel_rfl) ?_
  go_wp2
  exact bodyPost_ret (results_cell_row rfl _ _ w.heap.size 143 _ (0, 0) _ rfl (Blk.new w 143 #[.int .u64 hi, .int .u64 lo, .bool false]).drew Tryz.underlying143 rfl (by kernel_rfl)) rfl ⟨rfl, bl_drew (bl_alloc (Below.refl _ _) _)⟩
 ·have h1i : ¬ (d : Int) < 64 := by omega
  by_cases h2 : d < 128
  ·obtain ⟨f, rfl⟩ : ∃ f, d = f + 64 := ⟨d - 64, by omega⟩
   have hf : f < 64 := by omega
   have h2i : ((f + 64 : Nat) : Int) < 128 := by omega
   have hsub : ((f + 64 : Nat) : Int) - 64 = (f : Int) := by omega
   have hw : IntKind.i64.wrap (64 - (f : Int)) = ((64 - f : Nat) : Int) := by rw [wrap_i (by omega) (by omega)]; omega
   have hhi : lowHi m (f + 64) = 0 := by unfold lowHi; rw [if_neg h1]
   have hv : (m : Int) / 2 ^ f = (lowLo m (f + 64) : Int) := by unfold lowLo; rw [if_neg h1, if_pos h2, Nat.add_sub_cancel]; exact cast_shr m f
   have hs : IntKind.u64.wrap ((m : Int) * 2 ^ (64 - f)) = ((m * 2 ^ (64 - f) % 18446744073709551616 : Nat) : Int) := cast_shl m (64 - f)
   have hc : lowCut m (f + 64) = (((m * 2 ^ (64 - f) % 18446744073709551616 : Nat) : Int) != 0) := by
    unfold lowCut
    rw [if_neg h1, if_pos h2, show 128 - (f + 64) = 64 - f from by omega]
    rw [Bool.eq_iff_iff, decide_eq_true_iff, bne_iff_ne]
    omega
   rw [hhi, hc]
   generalize lowLo m (f + 64) = lo at hv ⊢
   generalize m * 2 ^ (64 - f) % 18446744073709551616 = z at hs ⊢
   generalize hD : ((f + 64 : Nat) : Int) = D at h1i h2i hsub ⊢
   have hD0 : 64 ≤ D := by omega
   clear hD hc hhi
   go_enter Tryz.func121, Tryz.ntmps121
   go_wp2_with fail
   refine start_ (n := 10) (S := fun w' => True) (ds := [9]) (bq 10 0) (by kernel_rfl) rfl rfl trivial (fun hHeld => ?_)
   refine pure_ (i := 0) (N := some 21) (v := ?_) (a' := ?_) (bq 10 1) rfl rfl (by kernel_rfl) (fun _ _ _ h => h) (Or.inl ⟨by rfl, ?_⟩) ?_ ?_
   rotate_left
   ·intro w'
    go_simp
    with_reducible rfl
   rotate_left
   ·simp only [Act.put, pA, pB, pC]
    rfl
   refine pure_ (i := 1) (N := some 22) (v := ?_) (a' := ?_) (bq 10 3) rfl rfl (by kernel_rfl) (fun _ _ _ h => h) (Or.inl ⟨by rfl, ?_⟩) ?_ ?_
   rotate_left
   ·intro w'
    go_simp
    with_reducible rfl
   rotate_left
   ·simp only [Act.put, pA, pB, pC]
    rfl
   refine pure_ (i := 2) (N := some 23) (v := ?_) (a' := ?_) (bq 10 7) rfl rfl (by kernel_rfl) (fun _ _ _ h => h) (Or.inl ⟨by rfl, ?_⟩) ?_ ?_
   rotate_left
   ·intro w'
    go_simp
    with_reducible rfl
   rotate_left
   ·simp only [Act.put, pA, pB, pC]
    rfl
   refine pure_ (i := 3) (N := some 24) (v := ?_) (a' := ?_) (bq 10 15) rfl rfl (by kernel_rfl) (fun _ _ _ h => h) (Or.inl ⟨by rfl, ?_⟩) ?_ ?_
   rotate_left
   ·intro w'
    go_simp
    with_reducible rfl
   rotate_left
   ·simp only [Act.put, pA, pB, pC]
    rfl
   refine pure_ (i := 4) (N := some 25) (v := ?_) (a' := ?_) (bq 10 31) rfl rfl (by kernel_rfl) (fun _ _ _ h => h) (Or.inl ⟨by rfl, ?_⟩) ?_ ?_
   rotate_left
   ·intro w'
    go_simp
    with_reducible rfl
   rotate_left
   ·simp only [Act.put, pA, pB, pC]
    rfl
   refine pure_ (i := 5) (N := some 26) (v := ?_) (a' := ?_) (bq 10 63) rfl rfl (by kernel_rfl) (fun _ _ _ h => h) (Or.inl ⟨by rfl, ?_⟩) ?_ ?_
   rotate_left
   ·intro w'
    go_simp
    with_reducible rfl
   rotate_left
   ·simp only [Act.put, pA, pB, pC]
    rfl
   refine pure_ (i := 6) (N := some 27) (v := ?_) (a' := ?_) (bq 10 127) rfl rfl (by kernel_rfl) (fun _ _ _ h => h) (Or.inl ⟨by rfl, ?_⟩) ?_ ?_
   rotate_left
   ·intro w'
    go_simp
    with_reducible rfl
   rotate_left
   ·simp only [Act.put, pA, pB, pC]
    rfl
   refine pure_ (i := 7) (N := some 28) (v := ?_) (a' := ?_) (bq 10 255) rfl rfl (by kernel_rfl) (fun _ _ _ h => h) (Or.inl ⟨by rfl, ?_⟩) ?_ ?_
   rotate_left
   ·intro w'
    go_simp
    with_reducible rfl
   rotate_left
   ·simp only [Act.put, pA, pB, pC]
    rfl
   refine pure_ (i := 8) (N := some 29) (v := ?_) (a' := ?_) (bq 10 511) rfl rfl (by kernel_rfl) (fun _ _ _ h => h) (Or.inl ⟨by rfl, ?_⟩) ?_ ?_
   rotate_left
   ·intro w'
    go_simp
    with_reducible rfl
   rotate_left
   ·simp only [Act.put, pA, pB, pC]
    rfl
   refine last_ (i := 9) (N := none) (bq 10 1023) rfl rfl (by kernel_rfl) (by decide) (fun K hK => ?_)
   refine skip_ (w1 := ?_) (by rfl) rfl ?_ ?_
   rotate_left
   ·go_simp
    rfl
   refine hK.out _ _ ?_
   clear hK K
   refine done_ (by kernel_rfl) ?_
   go_wp2
   exact bodyPost_ret (results_cell_row rfl _ _ w.heap.size 143 _ (0, 0) _ rfl (Blk.new w 143 #[.int .u64 0, .int .u64 lo, .bool ((z : Int) != 0)]).drew Tryz.underlying143 rfl (by kernel_rfl)) rfl ⟨rfl, bl_drew (bl_alloc (Below.refl _ _) _)⟩
  ·have h2i : ¬ (d : Int) < 128 := by omega
   have hhi : lowHi m d = 0 := by unfold lowHi; rw [if_neg h1]
   have hlo : lowLo m d = 0 := by unfold lowLo; rw [if_neg h1, if_neg h2]
   have hc : lowCut m d = true := by unfold lowCut; rw [if_neg h1, if_neg h2]
   rw [hhi, hlo, hc]
   go_enter Tryz.func121, Tryz.ntmps121
   go_wp2_with (refine wpList_stG rfl 143 (.tmp 4) (.tmp 30) rfl w.heap.size _ #[.int .u64 0, .int .u64 0, .bool true] BR rfl rfl (by kernel_rfl) rfl (by simp [Value.oneCell']) ?_; intro W2 B2 P2; have HB2 := P2.bel HB0 (Nat.le_refl _))
   exact bodyPost_ret (results_cell_row rfl _ _ w.heap.size 143 _ (0, 0) _ rfl B2 Tryz.underlying143 rfl (by kernel_rfl)) rfl ⟨rfl, HB2⟩
end Go.Proofs.YtagojbgmgkkdpaaGreat.Wk
