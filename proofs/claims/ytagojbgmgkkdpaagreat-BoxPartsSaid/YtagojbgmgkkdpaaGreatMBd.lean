import Derived.Test.YtagojbgmgkkdpaaGreatMBa
import Derived.Test.YtagojbgmgkkdpaaGreatIvC
import Derived.Test.YtagojbgmgkkdpaaGreatArY
/- Walks: box.Has, box.Widest, box.Split. -/
namespace Go.Proofs.YtagojbgmgkkdpaaGreat.Wk
open Go.RowKit Go.Proofs.Pl Go.Proofs.YtagojbgmgkkdpaaGreatW.PrintLast
set_option linter.unusedSimpArgs false
set_option linter.unusedVariables false

theorem hasL_iff : ∀ (b : List Iv) (p : List Num), hasL b p = true ↔ b.length = p.length ∧ ∀ (j : Nat) (x : Iv) (n : Num), b[j]? = some x → p[j]? = some n → hasI x n = true
 | [], [] => by simp [hasL]
 | [], _ :: _ => by simp [hasL]
 | _ :: _, [] => by simp [hasL]
 | x :: b, n :: p => by
  simp only [hasL, Bool.and_eq_true, hasL_iff b p, List.length_cons]
  constructor
  ·rintro ⟨h1, h2, h3⟩
   refine ⟨by omega, fun j y m hy hm => ?_⟩
   cases j with
   | zero => simp at hy hm; subst hy hm; exact h1
   | succ j => exact h3 j y m (by simpa using hy) (by simpa using hm)
  ·rintro ⟨h1, h2⟩
   exact ⟨h2 0 x n rfl rfl, by omega, fun j y m hy hm => h2 (j + 1) y m (by simpa using hy) (by simpa using hm)⟩
theorem ivAt_of {xs : List Iv} {k : Nat} {x : Iv} (h : xs[k]? = some x) : ivAt xs k = x := by
 unfold ivAt
 rw [List.getD_eq_getElem?_getD, h]; rfl
set_option maxRecDepth 100000 in
set_option maxHeartbeats 4000000 in
theorem widestB_calls (A : Option Addr) (n c : Nat) (xs : List Iv) (w : World) (hs : SlI w w.heap.size A n xs) (hw : ∀ x ∈ xs, WfIv x) (hn : n ≤ 1000) :
  Calls Tryz.prog 10 #[.slice A n c] w fun e w' => e = .returned (.int .i64 (widestB xs)) ∧ Below w.heap.size w w' := by
 have HE := Lib.hid (emptyB_calls A n c xs w hs hn)
 unfold widestB
 rw [hs.1]
 cases hp : emptyB xs
 ·rw [hp] at HE
  by_cases h0 : n = 0
  ·subst h0
   rw [if_pos (.inr rfl)]
   clear hs
   go_enter Tryz.func10, Tryz.ntmps10
   go_wp2_with (go_at_call 17; (refine HE.out.mono ?_); rintro e' w1 ⟨rfl, hb1⟩)
   go_ret
   exact ⟨rfl, hb1⟩
  ·rw [if_neg (by simp [h0])]
   have h0' : ((n : Int) == 0) = false := by simp; omega
   clear hp
   go_enter Tryz.func10, Tryz.ntmps10
   go_wp2_with (go_at_call 17; (refine HE.out.mono ?_); rintro e' w1 ⟨rfl, hb1⟩)
   go_loopw [3, 4, 15] (fun best _ i wr => ∃ k : Nat, k ≤ n ∧ i = .int .i64 k ∧ best = .int .i64 (bestN xs k) ∧ Below w.heap.size w wr) (fun _ _ i _ => n - (intOf i).toNat)
   case atStart => exact ⟨0, Nat.zero_le _, rfl, rfl, hb1⟩
   case round =>
    obtain ⟨k, hk, rfl, rfl, HB⟩ := hrel
    by_cases hlt : k < n
    ·have hq : bestN xs k < n := by
      have := bestN_lt xs k
      omega
     have hstep : bestN xs (k + 1) = if 0 < cmpN (widthI (ivAt xs k)) (widthI (ivAt xs (bestN xs k))) then k else bestN xs k := rfl
     generalize bestN xs k = q at hq hstep
     obtain ⟨b, off, x, rfl, hbB, hx, e0, e1, e2, e3, e4, e5, e6, e7, e8⟩ := (hs.below HB).at_ hlt
     obtain ⟨b', off', z, hbo, _, hz, g0, g1, g2, g3, g4, g5, g6, g7, g8⟩ := (hs.below HB).at_ hq
     cases hbo
     rw [ivAt_of hx, ivAt_of hz] at hstep
     have wx := hw x (List.mem_of_getElem? hx)
     have wz := hw z (List.mem_of_getElem? hz)
     have Hs := Lib.hid hs
     clear hx hz hs
     obtain ⟨x0, ⟨x1, x2, x3, x4⟩, ⟨x5, x6, x7, x8⟩⟩ := x
     obtain ⟨z0, ⟨z1, z2, z3, z4⟩, ⟨z5, z6, z7, z8⟩⟩ := z
     have HW1 := Lib.hid (fun W => widthI_calls x0 x1 x2 x3 x4 x5 x6 x7 x8 wx W)
     have HW2 := Lib.hid (fun W => widthI_calls z0 z1 z2 z3 z4 z5 z6 z7 z8 wz W)
     generalize widthI ⟨x0, ⟨x1, x2, x3, x4⟩, ⟨x5, x6, x7, x8⟩⟩ = f at HW1 hstep
     generalize widthI ⟨z0, ⟨z1, z2, z3, z4⟩, ⟨z5, z6, z7, z8⟩⟩ = h at HW2 hstep
     obtain ⟨f0, f1, f2, f3⟩ := f
     obtain ⟨h0, h1, h2, h3⟩ := h
     have HC := Lib.hid (fun W => cmpN_calls f0 f1 f2 f3 h0 h1 h2 h3 W)
     generalize cmpN ⟨f0, f1, f2, f3⟩ ⟨h0, h1, h2, h3⟩ = r at HC hstep
     dsimp only at e0 e1 e2 e3 e4 e5 e6 e7 e8 g0 g1 g2 g3 g4 g5 g6 g7 g8 HW1 HW2
     have Hstep := Lib.hid hstep
     clear hstep wx wz
     have hbW : b < wr.heap.size := Nat.lt_of_lt_of_le hbB HB.size
     go_wp2_with (refine wpList_stG rfl 39 (.tmp 5) (.tmp 19) rfl wr.heap.size _ #[.bool x0, .int .i64 x1, .bool x2, .int .u64 x3, .int .i64 x4, .int .i64 x5, .bool x6, .int .u64 x7, .int .i64 x8] (Blk.new wr _ _) rfl rfl (by kernel_rfl) rfl (by simp [Value.oneCell']) ?_; intro W2 X2 P2)
     have HB2 := below_put P2
     have HB3 := bl_drew (bl_trans HB HB2)
     have X3 := X2.drew
     have hcn : W2.drew.cell? ⟨b, off + q * 9, none⟩ = some (.bool z0) ∧ W2.drew.cell? ⟨b, off + q * 9 + 1, none⟩ = some (.int .i64 z1) ∧ W2.drew.cell? ⟨b, off + q * 9 + 2, none⟩ = some (.bool z2) ∧ W2.drew.cell? ⟨b, off + q * 9 + 3, none⟩ = some (.int .u64 z3) ∧ W2.drew.cell? ⟨b, off + q * 9 + 4, none⟩ = some (.int .i64 z4) ∧ W2.drew.cell? ⟨b, off + q * 9 + 5, none⟩ = some (.int .i64 z5) ∧ W2.drew.cell? ⟨b, off + q * 9 + 6, none⟩ = some (.bool z6) ∧ W2.drew.cell? ⟨b, off + q * 9 + 7, none⟩ = some (.int .u64 z7) ∧ W2.drew.cell? ⟨b, off + q * 9 + 8, none⟩ = some (.int .i64 z8) := ⟨(HB2.cell (p := ⟨b, _, none⟩) hbW).trans g0, (HB2.cell (p := ⟨b, _, none⟩) hbW).trans g1, (HB2.cell (p := ⟨b, _, none⟩) hbW).trans g2, (HB2.cell (p := ⟨b, _, none⟩) hbW).trans g3, (HB2.cell (p := ⟨b, _, none⟩) hbW).trans g4, (HB2.cell (p := ⟨b, _, none⟩) hbW).trans g5, (HB2.cell (p := ⟨b, _, none⟩) hbW).trans g6, (HB2.cell (p := ⟨b, _, none⟩) hbW).trans g7, (HB2.cell (p := ⟨b, _, none⟩) hbW).trans g8⟩
     have hbl : b < W2.drew.heap.size := Nat.lt_of_lt_of_le hbB HB3.size
     clear HB2 X2 P2 e0 e1 e2 e3 e4 e5 e6 e7 e8 g0 g1 g2 g3 g4 g5 g6 g7 g8
     refine start_ (n := 9) (S := fun w' => w'.cell? ⟨wr.heap.size, 0, none⟩ = some (.bool x0) ∧ w'.cell? ⟨wr.heap.size, 1, none⟩ = some (.int .i64 x1) ∧ w'.cell? ⟨wr.heap.size, 2, none⟩ = some (.bool x2) ∧ w'.cell? ⟨wr.heap.size, 3, none⟩ = some (.int .u64 x3) ∧ w'.cell? ⟨wr.heap.size, 4, none⟩ = some (.int .i64 x4) ∧ w'.cell? ⟨wr.heap.size, 5, none⟩ = some (.int .i64 x5) ∧ w'.cell? ⟨wr.heap.size, 6, none⟩ = some (.bool x6) ∧ w'.cell? ⟨wr.heap.size, 7, none⟩ = some (.int .u64 x7) ∧ w'.cell? ⟨wr.heap.size, 8, none⟩ = some (.int .i64 x8) ∧ w'.cell? ⟨b, off + q * 9, none⟩ = some (.bool z0) ∧ w'.cell? ⟨b, off + q * 9 + 1, none⟩ = some (.int .i64 z1) ∧ w'.cell? ⟨b, off + q * 9 + 2, none⟩ = some (.bool z2) ∧ w'.cell? ⟨b, off + q * 9 + 3, none⟩ = some (.int .u64 z3) ∧ w'.cell? ⟨b, off + q * 9 + 4, none⟩ = some (.int .i64 z4) ∧ w'.cell? ⟨b, off + q * 9 + 5, none⟩ = some (.int .i64 z5) ∧ w'.cell? ⟨b, off + q * 9 + 6, none⟩ = some (.bool z6) ∧ w'.cell? ⟨b, off + q * 9 + 7, none⟩ = some (.int .u64 z7) ∧ w'.cell? ⟨b, off + q * 9 + 8, none⟩ = some (.int .i64 z8)) (ds := []) (bq 9 0) (by kernel_rfl) rfl rfl ⟨X3.cell 0, X3.cell 1, X3.cell 2, X3.cell 3, X3.cell 4, X3.cell 5, X3.cell 6, X3.cell 7, X3.cell 8, hcn⟩ (fun hHeld => ?_)
     generalize hWW : World.drew _ = W3 at X3 HB3 hHeld hcn hbl ⊢
     clear hWW
     refine take_ (i := 0) (N := some 20) (v := ?_) (a' := ?_) (bq 9 1) rfl rfl (by kernel_rfl) (fun _ _ _ h => h) (Or.inl ⟨by rfl, ?_⟩) hHeld ?_ ?_
     rotate_left
     ·rintro w' ⟨s0_, s1_, s2_, s3_, s4_, s5_, s6_, s7_, s8_, s9_, s10_, s11_, s12_, s13_, s14_, s15_, s16_, s17_⟩
      go_simp
      with_reducible rfl
     rotate_left
     ·simp only [Act.put, pA, pB, pC]
      rfl
     refine pure_ (i := 2) (N := some 22) (v := ?_) (a' := ?_) (bq 9 5) rfl rfl (by kernel_rfl) (fun _ _ _ h => h) (Or.inl ⟨by rfl, ?_⟩) ?_ ?_
     rotate_left
     ·intro w'
      go_simp
      with_reducible rfl
     rotate_left
     ·simp only [Act.put, pA, pB, pC]
      rfl
     refine pure_ (i := 3) (N := some 23) (v := ?_) (a' := ?_) (bq 9 13) rfl rfl (by kernel_rfl) (fun _ _ _ h => h) (Or.inl ⟨by rfl, ?_⟩) ?_ ?_
     rotate_left
     ·intro w'
      go_simp
      with_reducible rfl
     rotate_left
     ·simp only [Act.put, pA, pB, pC]
      rfl
     refine pure_ (i := 4) (N := some 24) (v := ?_) (a' := ?_) (bq 9 29) rfl rfl (by kernel_rfl) (fun _ _ _ h => h) (Or.inl ⟨by rfl, ?_⟩) ?_ ?_
     rotate_left
     ·intro w'
      go_simp
      with_reducible rfl
     rotate_left
     ·simp only [Act.put, pA, pB, pC]
      rfl
     refine take_ (i := 5) (N := some 25) (v := ?_) (a' := ?_) (bq 9 61) rfl rfl (by kernel_rfl) (fun _ _ _ h => h) (Or.inl ⟨by rfl, ?_⟩) hHeld ?_ ?_
     rotate_left
     ·rintro w' ⟨s0_, s1_, s2_, s3_, s4_, s5_, s6_, s7_, s8_, s9_, s10_, s11_, s12_, s13_, s14_, s15_, s16_, s17_⟩
      go_simp
      with_reducible rfl
     rotate_left
     ·simp only [Act.put, pA, pB, pC]
      rfl
     refine one_ (i := 1) (N := some 21) (bq 9 63) rfl rfl (by kernel_rfl) (by decide) (fun K hK => ?_)
     refine goes_ Tryz.func25 (by kernel_rfl) rfl #[.agg #[.bool x0, .int .i64 x1, .bool x2, .int .u64 x3, .int .i64 x4, .int .i64 x5, .bool x6, .int .u64 x7, .int .i64 x8]] (by first | rfl | go_simp) rfl rfl (by simp only [List.map_toArray, List.map_cons, List.map_nil] <;> rfl) ?_
     with_reducible refine (HW1.out _).mono ?_
     rintro e w5 ⟨rfl, hb⟩
     refine ⟨_, rfl, ?_⟩
     have HB3 := bl_trans HB3 hb
     have X3 := X3.call hb
     have hcn := (show w5.cell? ⟨b, off + q * 9, none⟩ = some (.bool z0) ∧ w5.cell? ⟨b, off + q * 9 + 1, none⟩ = some (.int .i64 z1) ∧ w5.cell? ⟨b, off + q * 9 + 2, none⟩ = some (.bool z2) ∧ w5.cell? ⟨b, off + q * 9 + 3, none⟩ = some (.int .u64 z3) ∧ w5.cell? ⟨b, off + q * 9 + 4, none⟩ = some (.int .i64 z4) ∧ w5.cell? ⟨b, off + q * 9 + 5, none⟩ = some (.int .i64 z5) ∧ w5.cell? ⟨b, off + q * 9 + 6, none⟩ = some (.bool z6) ∧ w5.cell? ⟨b, off + q * 9 + 7, none⟩ = some (.int .u64 z7) ∧ w5.cell? ⟨b, off + q * 9 + 8, none⟩ = some (.int .i64 z8) from by
      obtain ⟨c0, c1, c2, c3, c4, c5, c6, c7, c8⟩ := hcn
      exact ⟨(hb.cell (p := ⟨b, _, none⟩) hbl).trans c0, (hb.cell (p := ⟨b, _, none⟩) hbl).trans c1, (hb.cell (p := ⟨b, _, none⟩) hbl).trans c2, (hb.cell (p := ⟨b, _, none⟩) hbl).trans c3, (hb.cell (p := ⟨b, _, none⟩) hbl).trans c4, (hb.cell (p := ⟨b, _, none⟩) hbl).trans c5, (hb.cell (p := ⟨b, _, none⟩) hbl).trans c6, (hb.cell (p := ⟨b, _, none⟩) hbl).trans c7, (hb.cell (p := ⟨b, _, none⟩) hbl).trans c8⟩)
     have hbl := Nat.lt_of_lt_of_le hbl hb.size
     refine hK.out _ _ ⟨X3.cell 0, X3.cell 1, X3.cell 2, X3.cell 3, X3.cell 4, X3.cell 5, X3.cell 6, X3.cell 7, X3.cell 8, hcn⟩ (fun hHeld => ?_)
     clear hK K hb
     refine norm_ (a' := ?_) ?_ ?_
     rotate_left
     ·show Act.put _ (some 21) _ = _
      simp only [Act.put, pA, pB, pC]
      rfl
     refine one_ (i := 6) (N := some 26) (bq 9 127) rfl rfl (by kernel_rfl) (by decide) (fun K hK => ?_)
     refine goes_ Tryz.func25 (by kernel_rfl) rfl #[.agg #[.bool z0, .int .i64 z1, .bool z2, .int .u64 z3, .int .i64 z4, .int .i64 z5, .bool z6, .int .u64 z7, .int .i64 z8]] (by first | rfl | go_simp) rfl rfl (by simp only [List.map_toArray, List.map_cons, List.map_nil] <;> rfl) ?_
     with_reducible refine (HW2.out _).mono ?_
     rintro e w6 ⟨rfl, hb⟩
     refine ⟨_, rfl, ?_⟩
     have HB3 := bl_trans HB3 hb
     have X3 := X3.call hb
     have hcn := (show w6.cell? ⟨b, off + q * 9, none⟩ = some (.bool z0) ∧ w6.cell? ⟨b, off + q * 9 + 1, none⟩ = some (.int .i64 z1) ∧ w6.cell? ⟨b, off + q * 9 + 2, none⟩ = some (.bool z2) ∧ w6.cell? ⟨b, off + q * 9 + 3, none⟩ = some (.int .u64 z3) ∧ w6.cell? ⟨b, off + q * 9 + 4, none⟩ = some (.int .i64 z4) ∧ w6.cell? ⟨b, off + q * 9 + 5, none⟩ = some (.int .i64 z5) ∧ w6.cell? ⟨b, off + q * 9 + 6, none⟩ = some (.bool z6) ∧ w6.cell? ⟨b, off + q * 9 + 7, none⟩ = some (.int .u64 z7) ∧ w6.cell? ⟨b, off + q * 9 + 8, none⟩ = some (.int .i64 z8) from by
      obtain ⟨c0, c1, c2, c3, c4, c5, c6, c7, c8⟩ := hcn
      exact ⟨(hb.cell (p := ⟨b, _, none⟩) hbl).trans c0, (hb.cell (p := ⟨b, _, none⟩) hbl).trans c1, (hb.cell (p := ⟨b, _, none⟩) hbl).trans c2, (hb.cell (p := ⟨b, _, none⟩) hbl).trans c3, (hb.cell (p := ⟨b, _, none⟩) hbl).trans c4, (hb.cell (p := ⟨b, _, none⟩) hbl).trans c5, (hb.cell (p := ⟨b, _, none⟩) hbl).trans c6, (hb.cell (p := ⟨b, _, none⟩) hbl).trans c7, (hb.cell (p := ⟨b, _, none⟩) hbl).trans c8⟩)
     have hbl := Nat.lt_of_lt_of_le hbl hb.size
     refine hK.out _ _ ⟨X3.cell 0, X3.cell 1, X3.cell 2, X3.cell 3, X3.cell 4, X3.cell 5, X3.cell 6, X3.cell 7, X3.cell 8, hcn⟩ (fun hHeld => ?_)
     clear hK K hb
     refine norm_ (a' := ?_) ?_ ?_
     rotate_left
     ·show Act.put _ (some 26) _ = _
      simp only [Act.put, pA, pB, pC]
      rfl
     refine one_ (i := 7) (N := some 27) (bq 9 255) rfl rfl (by kernel_rfl) (by decide) (fun K hK => ?_)
     refine goes_ Tryz.func24 (by kernel_rfl) rfl #[.agg #[.int .i64 f0, .bool f1, .int .u64 f2, .int .i64 f3], .agg #[.int .i64 h0, .bool h1, .int .u64 h2, .int .i64 h3]] (by first | rfl | go_simp) rfl rfl (by simp only [List.map_toArray, List.map_cons, List.map_nil] <;> rfl) ?_
     with_reducible refine (HC.out _).mono ?_
     rintro e w7 ⟨rfl, hb⟩
     refine ⟨_, rfl, ?_⟩
     have HB3 := bl_trans HB3 hb
     have X3 := X3.call hb
     have hcn := (show w7.cell? ⟨b, off + q * 9, none⟩ = some (.bool z0) ∧ w7.cell? ⟨b, off + q * 9 + 1, none⟩ = some (.int .i64 z1) ∧ w7.cell? ⟨b, off + q * 9 + 2, none⟩ = some (.bool z2) ∧ w7.cell? ⟨b, off + q * 9 + 3, none⟩ = some (.int .u64 z3) ∧ w7.cell? ⟨b, off + q * 9 + 4, none⟩ = some (.int .i64 z4) ∧ w7.cell? ⟨b, off + q * 9 + 5, none⟩ = some (.int .i64 z5) ∧ w7.cell? ⟨b, off + q * 9 + 6, none⟩ = some (.bool z6) ∧ w7.cell? ⟨b, off + q * 9 + 7, none⟩ = some (.int .u64 z7) ∧ w7.cell? ⟨b, off + q * 9 + 8, none⟩ = some (.int .i64 z8) from by
      obtain ⟨c0, c1, c2, c3, c4, c5, c6, c7, c8⟩ := hcn
      exact ⟨(hb.cell (p := ⟨b, _, none⟩) hbl).trans c0, (hb.cell (p := ⟨b, _, none⟩) hbl).trans c1, (hb.cell (p := ⟨b, _, none⟩) hbl).trans c2, (hb.cell (p := ⟨b, _, none⟩) hbl).trans c3, (hb.cell (p := ⟨b, _, none⟩) hbl).trans c4, (hb.cell (p := ⟨b, _, none⟩) hbl).trans c5, (hb.cell (p := ⟨b, _, none⟩) hbl).trans c6, (hb.cell (p := ⟨b, _, none⟩) hbl).trans c7, (hb.cell (p := ⟨b, _, none⟩) hbl).trans c8⟩)
     have hbl := Nat.lt_of_lt_of_le hbl hb.size
     refine hK.out _ _ ⟨X3.cell 0, X3.cell 1, X3.cell 2, X3.cell 3, X3.cell 4, X3.cell 5, X3.cell 6, X3.cell 7, X3.cell 8, hcn⟩ (fun hHeld => ?_)
     clear hK K hb
     refine norm_ (a' := ?_) ?_ ?_
     rotate_left
     ·show Act.put _ (some 27) _ = _
      simp only [Act.put, pA, pB, pC]
      rfl
     refine pure_ (i := 8) (N := some 28) (v := ?_) (a' := ?_) (bq 9 511) rfl rfl (by kernel_rfl) (fun _ _ _ h => h) (Or.inl ⟨by rfl, ?_⟩) ?_ ?_
     rotate_left
     ·intro w'
      go_simp
      with_reducible rfl
     rotate_left
     ·simp only [Act.put, pA, pB, pC]
      rfl
     refine done_ (by kernel_rfl) ?_
     clear hHeld hcn X3
     by_cases hr : 0 < r
     ·go_wp2
      go_roundw
      case rel => exact ⟨k + 1, by omega, by go_num, by rw [Hstep.out, if_pos hr], HB3⟩
      case measure => simp [intOf]; omega
     ·go_wp2
      go_roundw
      case rel => exact ⟨k + 1, by omega, by go_num, by rw [Hstep.out, if_neg hr], HB3⟩
      case measure => simp [intOf]; omega
    ·obtain rfl : k = n := by omega
     clear hs
     go_wp2
     go_ret
     exact ⟨rfl, HB⟩
 ·rw [hp] at HE
  rw [if_pos (.inl rfl)]
  clear hs hp
  go_enter Tryz.func10, Tryz.ntmps10
  go_wp2_with (go_at_call 17; (refine HE.out.mono ?_); rintro e' w1 ⟨rfl, hb1⟩)
  go_ret
  exact ⟨rfl, hb1⟩
end Go.Proofs.YtagojbgmgkkdpaaGreat.Wk

/- Walk: box.Split. -/
namespace Go.Proofs.YtagojbgmgkkdpaaGreat.Wk
open Go.RowKit Go.Proofs.Pl Go.Proofs.YtagojbgmgkkdpaaGreatW.PrintLast
set_option linter.unusedSimpArgs false
set_option linter.unusedVariables false

theorem putR_size : ∀ (vs : List Value) (o : Nat) (cs : Array Value), (putR cs o vs).size = cs.size
  | [], _, _ => rfl
  | v :: r, o, cs => by simp [putR, putR_size r]
theorem putR_get : ∀ (vs : List Value) (o : Nat) (cs : Array Value) (j : Nat), o + vs.length ≤ cs.size → (putR cs o vs)[j]? = if o ≤ j ∧ j < o + vs.length then vs[j - o]? else cs[j]?
  | [], o, cs, j, _ => by
    simp only [putR, List.length_nil, Nat.add_zero]
    rw [if_neg (by omega)]
  | v :: r, o, cs, j, h => by
    simp only [List.length_cons] at h
    rw [putR, putR_get r (o + 1) _ j (by simp; omega)]
    simp only [List.length_cons]
    by_cases h1 : o = j
    · subst h1
      rw [if_neg (by omega), if_pos (by omega), Nat.sub_self, Array.getElem?_setIfInBounds_self_of_lt (by omega)]
      rfl
    · by_cases h2 : o + 1 ≤ j ∧ j < o + 1 + r.length
      · rw [if_pos h2, if_pos (by omega)]
        obtain ⟨i, hi⟩ : ∃ i, j - o = i + 1 := ⟨j - o - 1, by omega⟩
        rw [hi, List.getElem?_cons_succ]
        congr 1; omega
      · rw [if_neg h2, if_neg (by omega), Array.getElem?_setIfInBounds_ne h1]
theorem flatI_set (xs : List Iv) (i : Nat) (s : Iv) (hi : i < xs.length) (j : Nat) : (flatI (xs.set i s))[j]? = if i * 9 ≤ j ∧ j < i * 9 + 9 then (ivCells s)[j - i * 9]? else (flatI xs)[j]? := by
  rw [flatI_get, flatI_get, List.getElem?_set]
  by_cases h : i = j / 9
  · rw [if_pos h, if_pos (by omega)]
    rw [if_pos (by omega)]
    simp only [Option.bind_some]
    congr 1; omega
  · rw [if_neg h, if_neg (by omega)]
/-- the block of a slice that the call made, which is not empty -/
theorem OwnI.blk {W : World} {base : Nat} {v : Value} {xs : List Iv} (h : OwnI W base v xs) (h0 : 0 < xs.length) : ∃ g cap cur, v = .slice (some ⟨g, 0, none⟩) xs.length cap ∧ base ≤ g ∧ Blk W g 39 cur ∧ xs.length ≤ cap ∧ cap ≤ maxLen ∧ cur.size = cap * 9 ∧ cur.toList.take (xs.length * 9) = flatI xs := by
  rcases h.2 with ⟨rfl, hn⟩ | ⟨g, cap, cur, rfl, hb, hg, h1, h2, h3, h4⟩
  · omega
  · exact ⟨g, cap, cur, rfl, hb, hg, h1, h2, h3, h4⟩
theorem OwnI.set {W1 : World} {base g cap : Nat} {xs : List Iv} {cur : Array Value} {i : Nat} {s : Iv} (hi : i < xs.length) (hb : base ≤ g) (h1 : xs.length ≤ cap) (h2 : cap ≤ maxLen) (h3 : cur.size = cap * 9) (h4 : cur.toList.take (xs.length * 9) = flatI xs)
    (hB : Blk W1 g 39 (putR cur (i * 9) (ivCells s))) : OwnI W1 base (.slice (some ⟨g, 0, none⟩) xs.length cap) (xs.set i s) := by
  refine ⟨by rw [flatI_length], .inr ⟨g, cap, _, by rw [List.length_set], hb, hB, by rw [List.length_set]; exact h1, h2, by rw [putR_size]; exact h3, ?_⟩⟩
  have hfit : i * 9 + (ivCells s).length ≤ cur.size := by rw [ivCells_length, h3]; omega
  apply List.ext_getElem?
  intro j
  rw [List.length_set, flatI_set xs i s hi j, ← h4, List.getElem?_take, List.getElem?_take, Array.getElem?_toList, Array.getElem?_toList, putR_get _ _ _ j hfit, ivCells_length]
  by_cases h : i * 9 ≤ j ∧ j < i * 9 + 9
  · rw [if_pos h, if_pos h, if_pos (by omega)]
    simp
  · rw [if_neg h, if_neg h]
    simp
theorem OwnI.put {W W1 : World} {base g : Nat} {v : Value} {xs : List Iv} (h : OwnI W base v xs) (hp : Put W W1 g) (hg : ∀ k, v.ownBlock = some k → k ≠ g) : OwnI W1 base v xs := h.same fun k hk => hp.2.2.2.2 k (hg k hk)
theorem OwnI.blkn {W : World} {base n : Nat} {v : Value} {xs : List Iv} (h : OwnI W base v xs) (hn : xs.length = n) (h0 : 0 < n) : ∃ g cap cur, v = .slice (some ⟨g, 0, none⟩) n cap ∧ base ≤ g ∧ Blk W g 39 cur ∧ n ≤ cap ∧ cap ≤ maxLen ∧ cur.size = cap * 9 ∧ cur.toList.take (n * 9) = flatI xs := by
  subst hn
  exact h.blk h0
theorem OwnI.setn {W1 : World} {base g cap n : Nat} {xs : List Iv} {cur : Array Value} {i : Nat} {s : Iv} (hn : xs.length = n) (hi : i < n) (hb : base ≤ g) (h1 : n ≤ cap) (h2 : cap ≤ maxLen) (h3 : cur.size = cap * 9) (h4 : cur.toList.take (n * 9) = flatI xs)
    (hB : Blk W1 g 39 (putR cur (i * 9) (ivCells s))) : OwnI W1 base (.slice (some ⟨g, 0, none⟩) n cap) (xs.set i s) := by
  subst hn
  exact OwnI.set hi hb h1 h2 h3 h4 hB
/-- the same, its length told apart -/
theorem OwnI.sln {w : World} {base n : Nat} {v : Value} {xs : List Iv} (h : OwnI w base v xs) (hn : xs.length = n) : ∃ A c, v = .slice A n c ∧ SlI w w.heap.size A n xs := by
  subst hn
  exact h.sl
theorem OwnI.sl' {w : World} {base n cap : Nat} {A : Option Addr} {xs : List Iv} (h : OwnI w base (.slice A n cap) xs) (hn : xs.length = n) : SlI w w.heap.size A n xs := by
  obtain ⟨A', c', e, h'⟩ := h.sln hn
  cases e
  exact h'
set_option maxRecDepth 100000 in
set_option maxHeartbeats 4000000 in
theorem splitB_calls (A : Option Addr) (n c i : Nat) (xs : List Iv) (w : World) (hs : SlI w w.heap.size A n xs) (hw : ∀ x ∈ xs, WfIv x) (hn : n ≤ 1000) (hi : i < n) :
    Calls Tryz.prog 7 #[.slice A n c, .int .i64 i] w fun e w' => ∃ A1 c1 A2 c2, e = .returned (.tuple #[.slice A1 n c1, .slice A2 n c2]) ∧ SlI w' w'.heap.size A1 n (halfA xs i) ∧ SlI w' w'.heap.size A2 n (halfB xs i) ∧ Below w.heap.size w w' := by
  have hl := hs.1
  obtain ⟨b, off, x, rfl, hbB, hx, e0, e1, e2, e3, e4, e5, e6, e7, e8⟩ := hs.at_ hi
  have HC := Lib.hid (fun W (h : SlI W W.heap.size (some ⟨b, off, none⟩) n xs) => clone_calls (some ⟨b, off, none⟩) n c xs W h hn)
  have HF := Lib.hid (fun A c ys W (h : SlI W W.heap.size A n ys) => fairB_calls A n c ys W h hn)
  unfold halfA halfB
  rw [ivAt_of hx]
  have wx := hw x (List.mem_of_getElem? hx)
  have HS := Lib.hid hs
  have Hl := Lib.hid hl
  clear hs hl hx hw
  obtain ⟨x0, ⟨x1, x2, x3, x4⟩, ⟨x5, x6, x7, x8⟩⟩ := x
  have HSP := Lib.hid (fun W => splitI_calls x0 x1 x2 x3 x4 x5 x6 x7 x8 wx W)
  generalize splitA ⟨x0, ⟨x1, x2, x3, x4⟩, ⟨x5, x6, x7, x8⟩⟩ = s at HSP ⊢
  generalize splitB ⟨x0, ⟨x1, x2, x3, x4⟩, ⟨x5, x6, x7, x8⟩⟩ = t at HSP ⊢
  dsimp only at HSP e0 e1 e2 e3 e4 e5 e6 e7 e8
  clear wx
  have hi0 : ¬ (i : Int) < 0 := by omega
  have hin : ¬ (n : Int) ≤ i := by omega
  go_enter Tryz.func7, Tryz.ntmps7
  go_wp2_with (first
    | (go_at_call 19; first
      | ((with_reducible refine (HC.out w HS.out).mono ?_); rintro e' w1 ⟨v1, rfl, O1, hb1⟩; have S1 := Lib.hid (HS.out.on hb1))
      | ((with_reducible refine (HC.out w1 S1.out).mono ?_); rintro e' w2 ⟨v2, rfl, O2, hb2⟩; have HB2 := bl_trans hb1 hb2; have O1' := O1.call hb2; obtain ⟨g1, cap1, cur1, rfl, q1, q2, q3, q4, q5, q6⟩ := O1'.blkn Hl.out (by omega); obtain ⟨g2, cap2, cur2, rfl, p1, p2, p3, p4, p5, p6⟩ := O2.blkn Hl.out (by omega)
         have hg1 : g1 < w1.heap.size := (by have := O1.lt g1 rfl; omega)
         have E : ∀ (o : Nat) u, w.cell? ⟨b, o, none⟩ = some u → w2.cell? ⟨b, o, none⟩ = some u := fun o u h => (HB2.cell (p := ⟨b, o, none⟩) hbB).trans h
         replace e0 := E _ _ e0
         replace e1 := E _ _ e1
         replace e2 := E _ _ e2
         replace e3 := E _ _ e3
         replace e4 := E _ _ e4
         replace e5 := E _ _ e5
         replace e6 := E _ _ e6
         replace e7 := E _ _ e7
         replace e8 := E _ _ e8
         have Q6 := Lib.hid q6
         have P6' := Lib.hid p6
         clear E O1 O1' O2 S1 q6 p6))
    | (go_at_call 20; (refine (HSP.out _).mono ?_); rintro e' w3 ⟨rfl, hb3⟩; have HB3 := bl_trans HB2 hb3; have B1 := q2.call hb3; have B2 := p2.call hb3; have hz2 := HB2.size; clear e0 e1 e2 e3 e4 e5 e6 e7 e8 hb3 q2 p2)
    | (refine wpList_stM rfl 39 (.tmp 32) (.tmp 30) rfl g1 (i * 9) 39 cur1 #[.bool s.emp, .int .i64 s.lo.k, .bool s.lo.n, .int .u64 s.lo.m, .int .i64 s.lo.e, .int .i64 s.hi.k, .bool s.hi.n, .int .u64 s.hi.m, .int .i64 s.hi.e] _ B1 rfl rfl (by kernel_rfl) (by simp; omega) (by simp [Value.oneCell']) rfl ?_; intro W4 C1 P4; have C2 := P4.blk B2 (by omega); have HB4 := P4.bel HB3 (by omega))
    | (refine wpList_stM rfl 39 (.tmp 33) (.tmp 31) rfl g2 (i * 9) 39 cur2 #[.bool t.emp, .int .i64 t.lo.k, .bool t.lo.n, .int .u64 t.lo.m, .int .i64 t.lo.e, .int .i64 t.hi.k, .bool t.hi.n, .int .u64 t.hi.m, .int .i64 t.hi.e] _ C2 rfl rfl (by kernel_rfl) (by simp; omega) (by simp [Value.oneCell']) rfl ?_; intro W5 D2 P5; have D1 := P5.blk C1 (by omega); have HB5 := P5.bel HB4 (by omega)
       have OA := Lib.hid (OwnI.setn (base := w.heap.size) Hl.out hi q1 q3 q4 q5 Q6.out D1)
       have OB := Lib.hid (OwnI.setn (base := w.heap.size) Hl.out hi (Nat.le_trans hb1.size p1) p3 p4 p5 P6'.out D2)
       clear C1 C2 D1 D2 P4 P5 B1 B2)
    | (go_at_call 21; first
      | ((with_reducible refine (HF.out _ _ (xs.set i s) _ (OA.out.sl' (by rw [List.length_set]; exact Hl.out))).mono ?_); rintro e' w6 ⟨v6, rfl, O6, hb6⟩; have HB6 := bl_trans HB5 hb6; have OC := Lib.hid (OB.out.call hb6))
      | ((with_reducible refine (HF.out _ _ (xs.set i t) _ (OC.out.sl' (by rw [List.length_set]; exact Hl.out))).mono ?_); rintro e' w7 ⟨v7, rfl, O7, hb7⟩; have HB7 := bl_trans HB6 hb7; have O8 := O6.call hb7)))
  go_ret2
  obtain ⟨A1, c1, rfl, S1⟩ := O8.sln (n := n) (by rw [fairB_len, List.length_set]; exact Hl.out)
  obtain ⟨A2, c2, rfl, S2⟩ := O7.sln (n := n) (by rw [fairB_len, List.length_set]; exact Hl.out)
  exact ⟨A1, c1, A2, c2, rfl, S1, S2, HB7⟩
end Go.Proofs.YtagojbgmgkkdpaaGreat.Wk
