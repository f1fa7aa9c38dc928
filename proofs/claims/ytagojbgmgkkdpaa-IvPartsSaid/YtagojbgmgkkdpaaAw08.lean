/- Walk: peloruslaw08.awake. -/
import Derived.Test.YtagojbgmgkkdpaaOfC
import Derived.Test.YtagojbgmgkkdpaaIvE
import Derived.Test.YtagojbgmgkkdpaaIvC
namespace Go.Proofs.Ytagojbgmgkkdpaa.Wk
open Go.RowKit Go.Proofs.Pl Go.Proofs.YtagojbgmgkkdpaaW.PrintLast
set_option linter.unusedSimpArgs false
set_option linter.unusedVariables false

theorem SlI.lit2 {w : World} {g B : Nat} {T : TypeId} {x y : Iv} (h : Blk w g T #[.bool x.emp, .int .i64 x.lo.k, .bool x.lo.n, .int .u64 x.lo.m, .int .i64 x.lo.e, .int .i64 x.hi.k, .bool x.hi.n, .int .u64 x.hi.m, .int .i64 x.hi.e, .bool y.emp, .int .i64 y.lo.k, .bool y.lo.n, .int .u64 y.lo.m, .int .i64 y.lo.e, .int .i64 y.hi.k, .bool y.hi.n, .int .u64 y.hi.m, .int .i64 y.hi.e]) (hB : g < B) :
    SlI w B (some ⟨g, 0, none⟩) 2 [x, y] := by
  refine ⟨rfl, fun _ => ⟨g, 0, rfl, hB, fun i z hz => ?_⟩⟩
  match i, hz with
  | 0, hz =>
    simp only [List.getElem?_cons_zero, Option.some.injEq] at hz
    subst hz
    exact ⟨h.cell 0, h.cell 1, h.cell 2, h.cell 3, h.cell 4, h.cell 5, h.cell 6, h.cell 7, h.cell 8⟩
  | 1, hz =>
    simp only [List.getElem?_cons_succ, List.getElem?_cons_zero, Option.some.injEq] at hz
    subst hz
    exact ⟨h.cell 9, h.cell 10, h.cell 11, h.cell 12, h.cell 13, h.cell 14, h.cell 15, h.cell 16, h.cell 17⟩
  | i + 2, hz => simp at hz


set_option maxRecDepth 100000 in
set_option maxHeartbeats 8000000 in
theorem awake08_calls (w : World) : Calls Try.prog 13 #[] w fun e w' => e = .returned (.bool true) ∧ Below w.heap.size w w' := by
  have HM := Lib.hid (fun A W (h : SlI W W.heap.size A 2 [⟨false, ⟨0, false, 0, 0⟩, ⟨1, false, 9223372036854775808, (-62)⟩⟩, ⟨false, ⟨1, false, 9223372036854775808, (-63)⟩, ⟨1, false, 13835058055282163712, (-62)⟩⟩]) => meetI_calls A 2 2 _ W h (by omega))
  rw [show meetI [⟨false, ⟨0, false, 0, 0⟩, ⟨1, false, 9223372036854775808, (-62)⟩⟩, ⟨false, ⟨1, false, 9223372036854775808, (-63)⟩, ⟨1, false, 13835058055282163712, (-62)⟩⟩] = ⟨false, ⟨1, false, 9223372036854775808, (-63)⟩, ⟨1, false, 9223372036854775808, (-62)⟩⟩ from by decide +kernel] at HM
  have HH := Lib.hid (fun A W (h : SlI W W.heap.size A 2 [⟨false, ⟨0, false, 0, 0⟩, ⟨1, false, 9223372036854775808, (-63)⟩⟩, ⟨false, ⟨1, false, 13835058055282163712, (-62)⟩, ⟨1, false, 9223372036854775808, (-61)⟩⟩]) => hullI_calls A 2 2 _ W h (by omega))
  rw [show hullI [⟨false, ⟨0, false, 0, 0⟩, ⟨1, false, 9223372036854775808, (-63)⟩⟩, ⟨false, ⟨1, false, 13835058055282163712, (-62)⟩, ⟨1, false, 9223372036854775808, (-61)⟩⟩] = ⟨false, ⟨0, false, 0, 0⟩, ⟨1, false, 9223372036854775808, (-61)⟩⟩ from by decide +kernel] at HH
  have HA := Lib.hid (fun W => hasI_calls false 1 false 9223372036854775808 (-63) 1 false 9223372036854775808 (-62) 1 false 9223372036854775808 (-62) W)
  rw [show hasI ⟨false, ⟨1, false, 9223372036854775808, (-63)⟩, ⟨1, false, 9223372036854775808, (-62)⟩⟩ ⟨1, false, 9223372036854775808, (-62)⟩ = true from by decide +kernel] at HA
  have e1 := fun W => run_eqIv W false false 1 1 false false 9223372036854775808 9223372036854775808 (-63) (-63) 1 1 false false 9223372036854775808 9223372036854775808 (-62) (-62)
  have e2 := fun W => run_eqNum W 1 1 false false 9223372036854775808 9223372036854775808 (-63) (-63)
  have e3 := fun W => run_eqIv W false false 0 0 false false 0 0 0 0 1 1 false false 9223372036854775808 9223372036854775808 (-61) (-61)
  rw [decide_eq_true rfl] at e1 e2 e3
  go_enter Try.func13, Try.ntmps13
  go_wp2_with (first
    | (go_at_call 56; first
      | ((with_reducible refine (ofI_0_2 _).mono ?_); rintro e w1 ⟨rfl, hb⟩; have HB1 := bl_trans (Below.refl w.heap.size w) hb; clear hb)
      | ((with_reducible refine (ofI_1_3 _).mono ?_); rintro e w2 ⟨rfl, hb⟩; have HB2 := bl_trans HB1 hb; clear hb HB1))
    | (go_at_call 23; refine (HM.out _ _ (SlI.lit2 (Blk.new w2 _ _) (by simp))).mono ?_; rintro e w3 ⟨rfl, hb⟩; have HB3 := bl_trans (bl_alloc HB2 _) hb; clear hb HB2))
  have BX := (Blk.new w3 26 #[.bool false, .int .i64 1, .bool false, .int .u64 9223372036854775808, .int .i64 (-63), .int .i64 1, .bool false, .int .u64 9223372036854775808, .int .i64 (-62)]).drew
  have HB := bl_drew (bl_alloc HB3 (.cells #[.bool false, .int .i64 1, .bool false, .int .u64 9223372036854775808, .int .i64 (-63), .int .i64 1, .bool false, .int .u64 9223372036854775808, .int .i64 (-62)] 26))
  clear HB3
  refine start_ (n := 34) (S := fun w' => w'.cell? ⟨w3.heap.size, 0, none⟩ = some (.bool false) ∧ w'.cell? ⟨w3.heap.size, 1, none⟩ = some (.int .i64 1) ∧ w'.cell? ⟨w3.heap.size, 2, none⟩ = some (.bool false) ∧ w'.cell? ⟨w3.heap.size, 3, none⟩ = some (.int .u64 9223372036854775808) ∧ w'.cell? ⟨w3.heap.size, 4, none⟩ = some (.int .i64 (-63)) ∧ w'.cell? ⟨w3.heap.size, 5, none⟩ = some (.int .i64 1) ∧ w'.cell? ⟨w3.heap.size, 6, none⟩ = some (.bool false) ∧ w'.cell? ⟨w3.heap.size, 7, none⟩ = some (.int .u64 9223372036854775808) ∧ w'.cell? ⟨w3.heap.size, 8, none⟩ = some (.int .i64 (-62))) (ds := []) (bq 34 0) (by kernel_rfl) rfl rfl ⟨BX.cell 0, BX.cell 1, BX.cell 2, BX.cell 3, BX.cell 4, BX.cell 5, BX.cell 6, BX.cell 7, BX.cell 8⟩ (fun hHeld => ?_)
  refine take_ (i := 0) (N := some 6) (v := ?_) (a' := ?_) (bq 34 1) rfl rfl (by kernel_rfl) (fun _ _ _ h => h) (Or.inl ⟨by rfl, ?_⟩) hHeld ?_ ?_
  rotate_left
  · rintro w' ⟨s0_, s1_, s2_, s3_, s4_, s5_, s6_, s7_, s8_⟩
    go_simp
    with_reducible rfl
  rotate_left
  · simp only [Act.put, pA, pB, pC]
    rfl
  refine one_ (i := 1) (N := some 7) (bq 34 3) rfl rfl (by kernel_rfl) (by decide) (fun K hK => ?_)
  refine goes_ Try.func56 (by kernel_rfl) rfl #[.int .i64 1, .int .i64 2] (by first | rfl | go_simp) rfl rfl (by simp only [List.map_toArray, List.map_cons, List.map_nil] <;> rfl) ?_
  with_reducible refine (ofI_1_2 _).mono ?_
  rintro e w4 ⟨rfl, hb⟩
  refine ⟨_, rfl, ?_⟩
  have BX := BX.call hb
  have HB := bl_trans HB hb
  refine hK.out _ _ ⟨BX.cell 0, BX.cell 1, BX.cell 2, BX.cell 3, BX.cell 4, BX.cell 5, BX.cell 6, BX.cell 7, BX.cell 8⟩ (fun hHeld => ?_)
  clear hK K hb
  refine norm_ (a' := ?_) ?_ ?_
  rotate_left
  · show Act.put _ (some 7) _ = _
    simp only [Act.put, pA, pB, pC]
    rfl
  refine pure_ (i := 2) (N := some 8) (v := ?_) (a' := ?_) (bq 34 7) rfl rfl (by kernel_rfl) (fun _ _ _ h => h) (Or.inl ⟨by rfl, ?_⟩) ?_ ?_
  rotate_left
  · intro w'
    go_simp
    with_reducible rfl
  rotate_left
  · simp only [Act.put, pA, pB, pC]
    rfl
  refine pure_ (i := 3) (N := some 9) (v := ?_) (a' := ?_) (bq 34 15) rfl rfl (by kernel_rfl) (fun _ _ _ h => h) (Or.inl ⟨by rfl, ?_⟩) ?_ ?_
  rotate_left
  · intro w'
    go_simp
    with_reducible rfl
  rotate_left
  · simp only [Act.put, pA, pB, pC]
    rfl
  refine pure_ (i := 4) (N := some 10) (v := ?_) (a' := ?_) (bq 34 31) rfl rfl (by kernel_rfl) (fun _ _ _ h => h) (Or.inl ⟨by rfl, ?_⟩) ?_ ?_
  rotate_left
  · intro w'
    go_simp
    with_reducible rfl
  rotate_left
  · simp only [Act.put, pA, pB, pC]
    rfl
  refine take_ (i := 5) (N := some 11) (v := ?_) (a' := ?_) (bq 34 63) rfl rfl (by kernel_rfl) (fun _ _ _ h => h) (Or.inl ⟨by rfl, ?_⟩) hHeld ?_ ?_
  rotate_left
  · rintro w' ⟨s0_, s1_, s2_, s3_, s4_, s5_, s6_, s7_, s8_⟩
    go_simp
    with_reducible rfl
  rotate_left
  · simp only [Act.put, pA, pB, pC]
    rfl
  refine pure_ (i := 6) (N := some 12) (v := ?_) (a' := ?_) (bq 34 127) rfl rfl (by kernel_rfl) (fun _ _ _ h => h) (Or.inl ⟨by rfl, ?_⟩) ?_ ?_
  rotate_left
  · intro w'
    go_simp
    with_reducible rfl
  rotate_left
  · simp only [Act.put, pA, pB, pC]
    rfl
  refine pure_ (i := 7) (N := some 13) (v := ?_) (a' := ?_) (bq 34 255) rfl rfl (by kernel_rfl) (fun _ _ _ h => h) (Or.inl ⟨by rfl, ?_⟩) ?_ ?_
  rotate_left
  · intro w'
    go_simp
    with_reducible rfl
  rotate_left
  · simp only [Act.put, pA, pB, pC]
    rfl
  refine pure_ (i := 8) (N := some 14) (v := ?_) (a' := ?_) (bq 34 511) rfl rfl (by kernel_rfl) (fun _ _ _ h => h) (Or.inl ⟨by rfl, ?_⟩) ?_ ?_
  rotate_left
  · intro w'
    go_simp
    with_reducible rfl
  rotate_left
  · simp only [Act.put, pA, pB, pC]
    rfl
  refine pure_ (i := 9) (N := some 15) (v := ?_) (a' := ?_) (bq 34 1023) rfl rfl (by kernel_rfl) (fun _ _ _ h => h) (Or.inl ⟨by rfl, ?_⟩) ?_ ?_
  rotate_left
  · intro w'
    go_simp
    with_reducible rfl
  rotate_left
  · simp only [Act.put, pA, pB, pC]
    rfl
  refine take_ (i := 10) (N := some 16) (v := ?_) (a' := ?_) (bq 34 2047) rfl rfl (by kernel_rfl) (fun _ _ _ h => h) (Or.inl ⟨by rfl, ?_⟩) hHeld ?_ ?_
  rotate_left
  · rintro w' ⟨s0_, s1_, s2_, s3_, s4_, s5_, s6_, s7_, s8_⟩
    go_simp
    with_reducible rfl
  rotate_left
  · simp only [Act.put, pA, pB, pC]
    rfl
  refine one_ (i := 11) (N := some 17) (bq 34 4095) rfl rfl (by kernel_rfl) (by decide) (fun K hK => ?_)
  refine goes_ Try.func57 (by kernel_rfl) rfl #[.int .i64 1] (by first | rfl | go_simp) rfl rfl (by simp only [List.map_toArray, List.map_cons, List.map_nil] <;> rfl) ?_
  with_reducible refine (of_1 _).mono ?_
  rintro e w5 ⟨rfl, hb⟩
  refine ⟨_, rfl, ?_⟩
  have BX := BX.call hb
  have HB := bl_trans HB hb
  refine hK.out _ _ ⟨BX.cell 0, BX.cell 1, BX.cell 2, BX.cell 3, BX.cell 4, BX.cell 5, BX.cell 6, BX.cell 7, BX.cell 8⟩ (fun hHeld => ?_)
  clear hK K hb
  refine norm_ (a' := ?_) ?_ ?_
  rotate_left
  · show Act.put _ (some 17) _ = _
    simp only [Act.put, pA, pB, pC]
    rfl
  refine pure_ (i := 12) (N := some 18) (v := ?_) (a' := ?_) (bq 34 8191) rfl rfl (by kernel_rfl) (fun _ _ _ h => h) (Or.inl ⟨by rfl, ?_⟩) ?_ ?_
  rotate_left
  · intro w'
    go_simp
    with_reducible rfl
  rotate_left
  · simp only [Act.put, pA, pB, pC]
    rfl
  refine pure_ (i := 13) (N := some 19) (v := ?_) (a' := ?_) (bq 34 16383) rfl rfl (by kernel_rfl) (fun _ _ _ h => h) (Or.inl ⟨by rfl, ?_⟩) ?_ ?_
  rotate_left
  · intro w'
    go_simp
    with_reducible rfl
  rotate_left
  · simp only [Act.put, pA, pB, pC]
    rfl
  refine pure_ (i := 14) (N := some 20) (v := ?_) (a' := ?_) (bq 34 32767) rfl rfl (by kernel_rfl) (fun _ _ _ h => h) (Or.inl ⟨by rfl, ?_⟩) ?_ ?_
  rotate_left
  · intro w'
    go_simp
    with_reducible rfl
  rotate_left
  · simp only [Act.put, pA, pB, pC]
    rfl
  refine pure_ (i := 15) (N := some 21) (v := ?_) (a' := ?_) (bq 34 65535) rfl rfl (by kernel_rfl) (fun _ _ _ h => h) (Or.inl ⟨by rfl, ?_⟩) ?_ ?_
  rotate_left
  · intro w'
    go_simp
    with_reducible rfl
  rotate_left
  · simp only [Act.put, pA, pB, pC]
    rfl
  refine pure_ (i := 16) (N := some 22) (v := ?_) (a' := ?_) (bq 34 131071) rfl rfl (by kernel_rfl) (fun _ _ _ h => h) (Or.inl ⟨by rfl, ?_⟩) ?_ ?_
  rotate_left
  · intro w'
    go_simp
    with_reducible rfl
  rotate_left
  · simp only [Act.put, pA, pB, pC]
    rfl
  refine take_ (i := 17) (N := some 23) (v := ?_) (a' := ?_) (bq 34 262143) rfl rfl (by kernel_rfl) (fun _ _ _ h => h) (Or.inl ⟨by rfl, ?_⟩) hHeld ?_ ?_
  rotate_left
  · rintro w' ⟨s0_, s1_, s2_, s3_, s4_, s5_, s6_, s7_, s8_⟩
    go_simp
    with_reducible rfl
  rotate_left
  · simp only [Act.put, pA, pB, pC]
    rfl
  refine pure_ (i := 18) (N := some 24) (v := ?_) (a' := ?_) (bq 34 524287) rfl rfl (by kernel_rfl) (fun _ _ _ h => h) (Or.inl ⟨by rfl, ?_⟩) ?_ ?_
  rotate_left
  · intro w'
    go_simp
    with_reducible rfl
  rotate_left
  · simp only [Act.put, pA, pB, pC]
    rfl
  refine pure_ (i := 19) (N := some 25) (v := ?_) (a' := ?_) (bq 34 1048575) rfl rfl (by kernel_rfl) (fun _ _ _ h => h) (Or.inl ⟨by rfl, ?_⟩) ?_ ?_
  rotate_left
  · intro w'
    go_simp
    with_reducible rfl
  rotate_left
  · simp only [Act.put, pA, pB, pC]
    rfl
  refine pure_ (i := 20) (N := some 26) (v := ?_) (a' := ?_) (bq 34 2097151) rfl rfl (by kernel_rfl) (fun _ _ _ h => h) (Or.inl ⟨by rfl, ?_⟩) ?_ ?_
  rotate_left
  · intro w'
    go_simp
    with_reducible rfl
  rotate_left
  · simp only [Act.put, pA, pB, pC]
    rfl
  refine one_ (i := 21) (N := some 27) (bq 34 4194303) rfl rfl (by kernel_rfl) (by decide) (fun K hK => ?_)
  refine goes_ Try.func56 (by kernel_rfl) rfl #[.int .i64 0, .int .i64 1] (by first | rfl | go_simp) rfl rfl (by simp only [List.map_toArray, List.map_cons, List.map_nil] <;> rfl) ?_
  with_reducible refine (ofI_0_1 _).mono ?_
  rintro e w6 ⟨rfl, hb⟩
  refine ⟨_, rfl, ?_⟩
  have BX := BX.call hb
  have HB := bl_trans HB hb
  refine hK.out _ _ ⟨BX.cell 0, BX.cell 1, BX.cell 2, BX.cell 3, BX.cell 4, BX.cell 5, BX.cell 6, BX.cell 7, BX.cell 8⟩ (fun hHeld => ?_)
  clear hK K hb
  refine norm_ (a' := ?_) ?_ ?_
  rotate_left
  · show Act.put _ (some 27) _ = _
    simp only [Act.put, pA, pB, pC]
    rfl
  refine one_ (i := 22) (N := some 28) (bq 34 8388607) rfl rfl (by kernel_rfl) (by decide) (fun K hK => ?_)
  refine goes_ Try.func56 (by kernel_rfl) rfl #[.int .i64 3, .int .i64 4] (by first | rfl | go_simp) rfl rfl (by simp only [List.map_toArray, List.map_cons, List.map_nil] <;> rfl) ?_
  with_reducible refine (ofI_3_4 _).mono ?_
  rintro e w7 ⟨rfl, hb⟩
  refine ⟨_, rfl, ?_⟩
  have BX := BX.call hb
  have HB := bl_trans HB hb
  refine hK.out _ _ ⟨BX.cell 0, BX.cell 1, BX.cell 2, BX.cell 3, BX.cell 4, BX.cell 5, BX.cell 6, BX.cell 7, BX.cell 8⟩ (fun hHeld => ?_)
  clear hK K hb
  refine norm_ (a' := ?_) ?_ ?_
  rotate_left
  · show Act.put _ (some 28) _ = _
    simp only [Act.put, pA, pB, pC]
    rfl
  refine one_ (i := 23) (N := some 29) (bq 34 16777215) rfl rfl (by kernel_rfl) (by decide) (fun K hK => ?_)
  refine value_ (v := ?_) (w1 := ?_) (by rfl) rfl ?_ ?_
  rotate_left 2
  · go_simp
    first | rfl | (constructor <;> rfl)
  have BH := Blk.new w7 26 #[.bool false, .int .i64 0, .bool false, .int .u64 0, .int .i64 0, .int .i64 1, .bool false, .int .u64 9223372036854775808, .int .i64 (-63), .bool false, .int .i64 1, .bool false, .int .u64 13835058055282163712, .int .i64 (-62), .int .i64 1, .bool false, .int .u64 9223372036854775808, .int .i64 (-61)]
  have BX := BX.alloc (.cells #[.bool false, .int .i64 0, .bool false, .int .u64 0, .int .i64 0, .int .i64 1, .bool false, .int .u64 9223372036854775808, .int .i64 (-63), .bool false, .int .i64 1, .bool false, .int .u64 13835058055282163712, .int .i64 (-62), .int .i64 1, .bool false, .int .u64 9223372036854775808, .int .i64 (-61)] 26)
  have HB := bl_alloc HB (.cells #[.bool false, .int .i64 0, .bool false, .int .u64 0, .int .i64 0, .int .i64 1, .bool false, .int .u64 9223372036854775808, .int .i64 (-63), .bool false, .int .i64 1, .bool false, .int .u64 13835058055282163712, .int .i64 (-62), .int .i64 1, .bool false, .int .u64 9223372036854775808, .int .i64 (-61)] 26)
  refine hK.out _ _ ⟨BX.cell 0, BX.cell 1, BX.cell 2, BX.cell 3, BX.cell 4, BX.cell 5, BX.cell 6, BX.cell 7, BX.cell 8⟩ (fun hHeld => ?_)
  clear hK K
  refine norm_ (a' := ?_) ?_ ?_
  rotate_left
  · show Act.put _ (some 29) _ = _
    simp only [Act.put, pA, pB, pC]
    rfl
  refine one_ (i := 24) (N := some 30) (bq 34 33554431) rfl rfl (by kernel_rfl) (by decide) (fun K hK => ?_)
  refine goes_ Try.func22 (by kernel_rfl) rfl #[.slice (some ⟨w7.heap.size, 0, none⟩) 2 2] (by first | rfl | go_simp) rfl rfl (by simp only [List.map_toArray, List.map_cons, List.map_nil] <;> rfl) ?_
  with_reducible refine (HH.out _ _ (SlI.lit2 (x := ⟨false, ⟨0, false, 0, 0⟩, ⟨1, false, 9223372036854775808, (-63)⟩⟩) (y := ⟨false, ⟨1, false, 13835058055282163712, (-62)⟩, ⟨1, false, 9223372036854775808, (-61)⟩⟩) BH BH.lt)).mono ?_
  rintro e w8 ⟨rfl, hb⟩
  refine ⟨_, rfl, ?_⟩
  have BX := BX.call hb
  have HB := bl_trans HB hb
  refine hK.out _ _ ⟨BX.cell 0, BX.cell 1, BX.cell 2, BX.cell 3, BX.cell 4, BX.cell 5, BX.cell 6, BX.cell 7, BX.cell 8⟩ (fun hHeld => ?_)
  clear hK K hb
  refine norm_ (a' := ?_) ?_ ?_
  rotate_left
  · show Act.put _ (some 30) _ = _
    simp only [Act.put, pA, pB, pC]
    rfl
  refine one_ (i := 25) (N := some 31) (bq 34 67108863) rfl rfl (by kernel_rfl) (by decide) (fun K hK => ?_)
  refine goes_ Try.func56 (by kernel_rfl) rfl #[.int .i64 0, .int .i64 4] (by first | rfl | go_simp) rfl rfl (by simp only [List.map_toArray, List.map_cons, List.map_nil] <;> rfl) ?_
  with_reducible refine (ofI_0_4 _).mono ?_
  rintro e w9 ⟨rfl, hb⟩
  refine ⟨_, rfl, ?_⟩
  have BX := BX.call hb
  have HB := bl_trans HB hb
  refine hK.out _ _ ⟨BX.cell 0, BX.cell 1, BX.cell 2, BX.cell 3, BX.cell 4, BX.cell 5, BX.cell 6, BX.cell 7, BX.cell 8⟩ (fun hHeld => ?_)
  clear hK K hb
  refine norm_ (a' := ?_) ?_ ?_
  rotate_left
  · show Act.put _ (some 31) _ = _
    simp only [Act.put, pA, pB, pC]
    rfl
  refine pure_ (i := 26) (N := some 32) (v := ?_) (a' := ?_) (bq 34 134217727) rfl rfl (by kernel_rfl) (fun _ _ _ h => h) (Or.inl ⟨by rfl, ?_⟩) ?_ ?_
  rotate_left
  · intro w'
    go_simp
    with_reducible rfl
  rotate_left
  · simp only [Act.put, pA, pB, pC]
    rfl
  refine pure_ (i := 27) (N := some 33) (v := ?_) (a' := ?_) (bq 34 268435455) rfl rfl (by kernel_rfl) (fun _ _ _ h => h) (Or.inl ⟨by rfl, ?_⟩) ?_ ?_
  rotate_left
  · intro w'
    go_simp
    with_reducible rfl
  rotate_left
  · simp only [Act.put, pA, pB, pC]
    rfl
  refine pure_ (i := 28) (N := some 34) (v := ?_) (a' := ?_) (bq 34 536870911) rfl rfl (by kernel_rfl) (fun _ _ _ h => h) (Or.inl ⟨by rfl, ?_⟩) ?_ ?_
  rotate_left
  · intro w'
    go_simp
    with_reducible rfl
  rotate_left
  · simp only [Act.put, pA, pB, pC]
    rfl
  refine take_ (i := 29) (N := some 35) (v := ?_) (a' := ?_) (bq 34 1073741823) rfl rfl (by kernel_rfl) (fun _ _ _ h => h) (Or.inl ⟨by rfl, ?_⟩) hHeld ?_ ?_
  rotate_left
  · rintro w' ⟨s0_, s1_, s2_, s3_, s4_, s5_, s6_, s7_, s8_⟩
    go_simp
    with_reducible rfl
  rotate_left
  · simp only [Act.put, pA, pB, pC]
    rfl
  refine one_ (i := 30) (N := some 36) (bq 34 2147483647) rfl rfl (by kernel_rfl) (by decide) (fun K hK => ?_)
  refine goes_ Try.func57 (by kernel_rfl) rfl #[.int .i64 2] (by first | rfl | go_simp) rfl rfl (by simp only [List.map_toArray, List.map_cons, List.map_nil] <;> rfl) ?_
  with_reducible refine (of_2 _).mono ?_
  rintro e w10 ⟨rfl, hb⟩
  refine ⟨_, rfl, ?_⟩
  have BX := BX.call hb
  have HB := bl_trans HB hb
  refine hK.out _ _ ⟨BX.cell 0, BX.cell 1, BX.cell 2, BX.cell 3, BX.cell 4, BX.cell 5, BX.cell 6, BX.cell 7, BX.cell 8⟩ (fun hHeld => ?_)
  clear hK K hb
  refine norm_ (a' := ?_) ?_ ?_
  rotate_left
  · show Act.put _ (some 36) _ = _
    simp only [Act.put, pA, pB, pC]
    rfl
  refine one_ (i := 31) (N := some 37) (bq 34 4294967295) rfl rfl (by kernel_rfl) (by decide) (fun K hK => ?_)
  refine goes_ Try.func21 (by kernel_rfl) rfl #[.agg #[.bool false, .int .i64 1, .bool false, .int .u64 9223372036854775808, .int .i64 (-63), .int .i64 1, .bool false, .int .u64 9223372036854775808, .int .i64 (-62)], .agg #[.int .i64 1, .bool false, .int .u64 9223372036854775808, .int .i64 (-62)]] (by first | rfl | go_simp) rfl rfl (by simp only [List.map_toArray, List.map_cons, List.map_nil] <;> rfl) ?_
  with_reducible refine (HA.out _).mono ?_
  rintro e w11 ⟨rfl, hb⟩
  refine ⟨_, rfl, ?_⟩
  have BX := BX.call hb
  have HB := bl_trans HB hb
  refine hK.out _ _ ⟨BX.cell 0, BX.cell 1, BX.cell 2, BX.cell 3, BX.cell 4, BX.cell 5, BX.cell 6, BX.cell 7, BX.cell 8⟩ (fun hHeld => ?_)
  clear hK K hb
  refine norm_ (a' := ?_) ?_ ?_
  rotate_left
  · show Act.put _ (some 37) _ = _
    simp only [Act.put, pA, pB, pC]
    rfl
  refine pure_ (i := 32) (N := some 38) (v := ?_) (a' := ?_) (bq 34 8589934591) rfl rfl (by kernel_rfl) (fun _ _ _ h => h) (Or.inl ⟨by rfl, ?_⟩) ?_ ?_
  rotate_left
  · intro w'
    go_simp
    with_reducible rfl
  rotate_left
  · simp only [Act.put, pA, pB, pC]
    rfl
  refine pure_ (i := 33) (N := some 0) (v := ?_) (a' := ?_) (bq 34 17179869183) rfl rfl (by kernel_rfl) (fun _ _ _ h => h) (Or.inl ⟨by rfl, ?_⟩) ?_ ?_
  rotate_left
  · intro w'
    go_simp
    with_reducible rfl
  rotate_left
  · simp only [Act.put, pA, pB, pC]
    rfl
  refine done_ (by kernel_rfl) ?_
  go_wp2
  go_ret
  exact ⟨by first | rfl | simp, HB⟩
end Go.Proofs.Ytagojbgmgkkdpaa.Wk
