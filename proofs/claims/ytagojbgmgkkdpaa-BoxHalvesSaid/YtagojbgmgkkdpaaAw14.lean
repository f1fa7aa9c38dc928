/- Walk: peloruslaw14.awake. -/
import Derived.Test.YtagojbgmgkkdpaaBoxH
namespace Go.Proofs.Ytagojbgmgkkdpaa.Wk
open Go.RowKit Go.Proofs.Pl Go.Proofs.YtagojbgmgkkdpaaW.PrintLast
set_option linter.unusedSimpArgs false
set_option linter.unusedVariables false

def i02 : Iv := ⟨false, ⟨0, false, 0, 0⟩, ⟨1, false, 9223372036854775808, -62⟩⟩
def i01 : Iv := ⟨false, ⟨0, false, 0, 0⟩, ⟨1, false, 9223372036854775808, -63⟩⟩
def i13 : Iv := ⟨false, ⟨1, false, 9223372036854775808, -63⟩, ⟨1, false, 13835058055282163712, -62⟩⟩
def i23 : Iv := ⟨false, ⟨1, false, 9223372036854775808, -62⟩, ⟨1, false, 13835058055282163712, -62⟩⟩
def i03 : Iv := ⟨false, ⟨0, false, 0, 0⟩, ⟨1, false, 13835058055282163712, -62⟩⟩
theorem aw14_a : (meetB [i02, i01] [i13, i23]).length = 2 := by decide +kernel
theorem aw14_b : emptyB (meetB [i02, i01] [i13, i23]) = true := by decide +kernel
theorem aw14_c : emptyB [i02, i01] = false := by decide +kernel
theorem wid0 (h : Num) (hw : Wf h) (hf : fairI ⟨false, zero, h⟩ = ⟨false, zero, h⟩) (hm : fairN h = h) : widthI ⟨false, zero, h⟩ = h := by
  unfold widthI
  rw [hf]
  show subN h zero true = h
  rw [subN_zero _ hw, hm]
theorem wid01 : widthI i01 = ⟨1, false, 9223372036854775808, -63⟩ := wid0 ⟨1, false, 9223372036854775808, -63⟩ (by unfold Wf; simp) (by decide +kernel) (by decide +kernel)
theorem wid03 : widthI i03 = ⟨1, false, 13835058055282163712, -62⟩ := wid0 ⟨1, false, 13835058055282163712, -62⟩ (by unfold Wf; simp) (by decide +kernel) (by decide +kernel)
theorem aw14_d : widestB [i01, i03] = 1 := by
  unfold widestB
  rw [if_neg (by decide +kernel)]
  have b1 : bestN [i01, i03] 1 = 0 := by
    show (if 0 < cmpN (widthI (ivAt [i01, i03] 0)) (widthI (ivAt [i01, i03] 0)) then 0 else 0) = 0
    split <;> rfl
  show ((if 0 < cmpN (widthI (ivAt [i01, i03] 1)) (widthI (ivAt [i01, i03] (bestN [i01, i03] 1))) then 1 else bestN [i01, i03] 1 : Nat) : Int) = 1
  rw [b1]
  show ((if 0 < cmpN (widthI i03) (widthI i01) then 1 else 0 : Nat) : Int) = 1
  rw [wid01, wid03]
  decide +kernel
theorem aw14_w : ∀ x ∈ [i01, i03], WfIv x := by
  intro x hx
  simp only [List.mem_cons, List.not_mem_nil, or_false] at hx
  rcases hx with rfl | rfl <;> (unfold WfIv Wf; decide)
set_option maxRecDepth 100000 in
set_option maxHeartbeats 8000000 in
theorem awake14_calls (w : World) : Calls Try.prog 32 #[] w fun e w' => e = .returned (.bool true) ∧ Below w.heap.size w w' := by
  have HM := Lib.hid (fun A c B d W h1 h2 => meetB_calls A 2 c [i02, i01] B 2 d [i13, i23] W h1 h2 (by omega))
  have hl := aw14_a
  have HE1 := Lib.hid (fun A c W h => emptyB_calls A 2 c (meetB [i02, i01] [i13, i23]) W h (by omega))
  have HE2 := Lib.hid (fun A c W h => emptyB_calls A 2 c [i02, i01] W h (by omega))
  have HW := Lib.hid (fun A c W h => widestB_calls A 2 c [i01, i03] W h aw14_w (by omega))
  rw [aw14_b] at HE1
  rw [aw14_c] at HE2
  rw [aw14_d] at HW
  generalize meetB [i02, i01] [i13, i23] = M at HM HE1 hl
  have Hl := Lib.hid hl
  clear hl
  have HB0 := Below.refl w.heap.size w
  go_enter Try.func32, Try.ntmps32
  go_wp2_with (first
    | (go_at_call 56; first
      | ((with_reducible refine (ofI_0_2 w).mono ?_); rintro e' w1 ⟨rfl, hb⟩; have HB1 := bl_trans HB0 hb; clear hb)
      | ((with_reducible refine (ofI_0_1 w1).mono ?_); rintro e' w2 ⟨rfl, hb⟩; have HB2 := bl_trans HB1 hb; clear hb
         have HB2' := bl_alloc HB2 (.cells #[.bool false, .int .i64 0, .bool false, .int .u64 0, .int .i64 0, .int .i64 1, .bool false, .int .u64 9223372036854775808, .int .i64 (-62), .bool false, .int .i64 0, .bool false, .int .u64 0, .int .i64 0, .int .i64 1, .bool false, .int .u64 9223372036854775808, .int .i64 (-63)] 26)
         have SA := Lib.hid (SlI.lit2 (x := i02) (y := i01) (Blk.new w2 26 _) (show w2.heap.size < (w2.alloc (.cells #[.bool false, .int .i64 0, .bool false, .int .u64 0, .int .i64 0, .int .i64 1, .bool false, .int .u64 9223372036854775808, .int .i64 (-62), .bool false, .int .i64 0, .bool false, .int .u64 0, .int .i64 0, .int .i64 1, .bool false, .int .u64 9223372036854775808, .int .i64 (-63)] 26)).heap.size by simp)))
      | ((with_reducible refine (ofI_1_3 _).mono ?_); rintro e' w3 ⟨rfl, hb⟩; have HB3 := bl_trans HB2' hb; have SA3 := Lib.hid (SA.out.on hb); clear hb)
      | ((with_reducible refine (ofI_2_3 w3).mono ?_); rintro e' w4 ⟨rfl, hb⟩; have HB4 := bl_alloc (bl_trans HB3 hb) (.cells #[.bool false, .int .i64 1, .bool false, .int .u64 9223372036854775808, .int .i64 (-63), .int .i64 1, .bool false, .int .u64 13835058055282163712, .int .i64 (-62), .bool false, .int .i64 1, .bool false, .int .u64 9223372036854775808, .int .i64 (-62), .int .i64 1, .bool false, .int .u64 13835058055282163712, .int .i64 (-62)] 26)
         have SA4 := Lib.hid (SA3.out.on (bl_alloc hb (.cells #[.bool false, .int .i64 1, .bool false, .int .u64 9223372036854775808, .int .i64 (-63), .int .i64 1, .bool false, .int .u64 13835058055282163712, .int .i64 (-62), .bool false, .int .i64 1, .bool false, .int .u64 9223372036854775808, .int .i64 (-62), .int .i64 1, .bool false, .int .u64 13835058055282163712, .int .i64 (-62)] 26))); clear hb
         have SB4 := Lib.hid (SlI.lit2 (x := i13) (y := i23) (Blk.new w4 26 _) (show w4.heap.size < (w4.alloc (.cells #[.bool false, .int .i64 1, .bool false, .int .u64 9223372036854775808, .int .i64 (-63), .int .i64 1, .bool false, .int .u64 13835058055282163712, .int .i64 (-62), .bool false, .int .i64 1, .bool false, .int .u64 9223372036854775808, .int .i64 (-62), .int .i64 1, .bool false, .int .u64 13835058055282163712, .int .i64 (-62)] 26)).heap.size by simp)))
      | ((with_reducible refine (ofI_0_1 w7).mono ?_); rintro e' w8 ⟨rfl, hb⟩; have HB8 := bl_trans HB7 hb; clear hb)
      | ((with_reducible refine (ofI_0_3 w8).mono ?_); rintro e' w9 ⟨rfl, hb⟩; have HB9 := bl_alloc (bl_trans HB8 hb) (.cells #[.bool false, .int .i64 0, .bool false, .int .u64 0, .int .i64 0, .int .i64 1, .bool false, .int .u64 9223372036854775808, .int .i64 (-63), .bool false, .int .i64 0, .bool false, .int .u64 0, .int .i64 0, .int .i64 1, .bool false, .int .u64 13835058055282163712, .int .i64 (-62)] 26); clear hb))
    | (go_at_call 34; (refine (HM.out _ _ _ _ _ SA4.out SB4.out).mono ?_); rintro e' w5 ⟨v5, rfl, O5, hb⟩; obtain ⟨A5, c5, rfl, S5⟩ := O5.sln Hl.out; have HS5 := Lib.hid S5; have HB5 := bl_trans HB4 hb; have SA5 := Lib.hid (SA4.out.on hb); clear hb O5 S5)
    | (go_at_call 40; first
      | ((with_reducible refine (HE1.out A5 c5 w5 HS5.out).mono ?_); rintro e' w6 ⟨rfl, hb⟩; have HB6 := bl_trans HB5 hb; have SA6 := Lib.hid (SA5.out.on hb); clear hb)
      | ((with_reducible refine (HE2.out _ _ w6 SA6.out).mono ?_); rintro e' w7 ⟨rfl, hb⟩; have HB7 := bl_trans HB6 hb; clear hb))
    | (go_at_call 46; (refine (HW.out _ _ _ (SlI.lit2 (x := i01) (y := i03) (Blk.new w9 26 _) (show w9.heap.size < (w9.alloc (.cells #[.bool false, .int .i64 0, .bool false, .int .u64 0, .int .i64 0, .int .i64 1, .bool false, .int .u64 9223372036854775808, .int .i64 (-63), .bool false, .int .i64 0, .bool false, .int .u64 0, .int .i64 0, .int .i64 1, .bool false, .int .u64 13835058055282163712, .int .i64 (-62)] 26)).heap.size by simp))).mono ?_); rintro e' w10 ⟨rfl, hb⟩; have HB10 := bl_trans HB9 hb; clear hb))
  go_ret
  exact ⟨rfl, HB10⟩
end Go.Proofs.Ytagojbgmgkkdpaa.Wk
