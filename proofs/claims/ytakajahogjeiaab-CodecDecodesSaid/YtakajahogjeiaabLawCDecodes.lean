/- Walk: peloruslaw23.CodecDecodes. -/
import Derived.Test.YtakajahogjeiaabLawCBack
import Derived.Test.YtakajahogjeiaabDecE
namespace Go.Proofs.Ytakajahogjeiaab.Wk
open Go.RowKit Go.Proofs.Pl Go.Proofs.YtakajahogjeiaabW.PrintLast
set_option linter.unusedSimpArgs false
set_option linter.unusedVariables false

theorem decT_length (bs : List Int) : (decT bs).l.length ≤ 64 := by
  unfold decT
  split
  · next h =>
    unfold tOk at h
    simp only [Bool.and_eq_true] at h
    have hm := h.2
    unfold mayT at hm
    simp only [Bool.and_eq_true, decide_eq_true_eq] at hm
    exact hm.1.2
  · simp [zeroT]
set_option maxRecDepth 100000 in
set_option maxHeartbeats 8000000 in
theorem cdecodes_calls (A : Option Addr) (n c : Nat) (bs : List Int) (w : World) (hs : SlB w w.heap.size A n bs) (hby : Byt bs) (hc : n ≤ c) (hcm : c ≤ 9223372036854775807) :
    Calls Try.prog 5 #[.slice A n c] w fun e w' => e = .returned (.bool true) ∧ Below w.heap.size w w' := by
  have HA := Lib.hid (fun W => awake23_calls W)
  by_cases hn : n ≤ 6000
  · have hni : ¬ (6000 : Int) < (n : Int) := by omega
    have HD := Lib.hid (fun W h => decode_calls A n c bs W h hby hc hcm)
    have HE := Lib.hid (fun W h => rdecode_calls A n c bs W h hby hc hcm)
    have HU := Lib.hid (fun W h => dect_calls A n c bs W h hby hc hcm)
    have HV := Lib.hid (fun W h => rdect_calls A n c bs W h hby hc hcm)
    have hL : (decO bs).1.length ≤ 256 := by rcases once_ops bs hby with ⟨_, _, _, h⟩ | ⟨_, _, h⟩ <;> exact h
    have hX := decT_length bs
    generalize decO bs = D at hL HD HE
    generalize decT bs = t at hX HU HV
    generalize decTE bs = eT at HU HV
    obtain ⟨L, eL⟩ := D
    obtain ⟨s, i, xs⟩ := t
    dsimp only at hL hX HD HE HU HV
    have HS := Lib.hid (fun A1 c1 A2 c2 W h h' => sameO_calls A1 L.length c1 (by omega) L A2 L.length c2 L W h h')
    have HQ := Lib.hid (fun A1 c1 A2 c2 W h h' => sameT_calls s i A1 xs.length c1 (by omega) xs s i A2 xs.length c2 xs W h h')
    rw [decide_eq_true (rfl : L = L)] at HS
    rw [show sameT s i xs s i xs = true from by unfold sameT; simp] at HQ
    generalize L.length = nL at HD HE HS
    generalize xs.length = nX at HU HV HQ
    have Hs := Lib.hid hs
    clear hs hL hX
    go_enter Try.func5, Try.ntmps5
    go_wp2_with (first
      | (go_at_call 20; (with_reducible refine (HA.out _).mono ?_); rintro e w1 ⟨rfl, hb⟩; have HB1 := hb; have S1 := Hs.out.on HB1; clear HA hb)
      | (go_at_call 24; (with_reducible refine (HD.out _ S1).mono ?_); rintro e w2 ⟨A1, c1, rfl, L2, hb⟩; have HB2 := bl_trans HB1 hb; have S2 := Hs.out.on HB2; clear HD hb)
      | (go_at_call 25; (with_reducible refine (HE.out _ S2).mono ?_); rintro e w3 ⟨A2, c2, rfl, M3, hb⟩; have HB3 := bl_trans HB2 hb; have S3 := Hs.out.on HB3; have L3 := L2.on' hb; clear HE hb)
      | (go_at_call 23; (with_reducible refine (HU.out _ S3).mono ?_); rintro e w4 ⟨A3, c3, rfl, T4, hb⟩; have HB4 := bl_trans HB3 hb; have L4 := L3.on' hb; have M4 := M3.on' hb; clear HU hb)
      | (refine wpList_storeG rfl 34 (.tmp 8) (.tmp 36) rfl w4.heap.size _ (tbCells s i (.slice A3 nX c3)).toArray (Blk.new w4 _ _) rfl rfl (by kernel_rfl) rfl (tb_one _ _ _ _ _) ?_; intro W5 X5 G5 hs5; have hb := below_made G5; have HB5 := bl_trans HB4 hb; have L5 := L4.on' hb; have M5 := M4.on' hb; have T5 := T4.on' hb; have S5 := Hs.out.on HB5; clear hb G5 hs5)
      | (go_at_call 26; (with_reducible refine (HV.out _ S5).mono ?_); rintro e w6 ⟨A4, c4, rfl, U6, hb⟩; have HB6 := bl_trans HB5 hb; have L6 := L5.on' hb; have M6 := M5.on' hb; have T6 := T5.on' hb; have X6 := X5.call hb; clear HV hb)
      | (refine wpList_storeG rfl 34 (.tmp 10) (.tmp 41) rfl w6.heap.size _ (tbCells s i (.slice A4 nX c4)).toArray (Blk.new w6 _ _) rfl rfl (by kernel_rfl) rfl (tb_one _ _ _ _ _) ?_; intro W7 Y7 G7 hs7; have hb := below_made G7; have HB7 := bl_trans HB6 hb; have L7 := L6.on' hb; have M7 := M6.on' hb; have T7 := T6.on' hb; have U7 := U6.on' hb; have X7 := X6.call hb; clear hb G7 hs7)
      | (go_at_call 27; (with_reducible refine (HS.out _ _ _ _ _ L7 M7).mono ?_); rintro e w8 ⟨rfl, hb⟩; have HB8 := bl_trans HB7 hb; have T8 := T7.on' hb; have U8 := U7.on' hb; have X8 := X7.call hb; have Y8 := Y7.call hb; clear HS hb)
      | (refine wpList_load_row rfl 34 (.tmp 8) rfl w4.heap.size rfl 34 (tbCells s i (.slice A3 nX c3)).toArray (0, 0) _ X8 Try.underlying34 rfl (by kernel_rfl) ?_)
      | (refine wpList_load_row rfl 34 (.tmp 10) rfl w6.heap.size rfl 34 (tbCells s i (.slice A4 nX c4)).toArray (0, 0) _ Y8 Try.underlying34 rfl (by kernel_rfl) ?_)
      | (go_at_call 28; (with_reducible refine (HQ.out _ _ _ _ _ T8 U8).mono ?_); rintro e w9 ⟨rfl, hb⟩; have HB9 := bl_trans HB8 hb; clear HQ hb))
    all_goals go_ret
    all_goals exact ⟨by simp, by assumption⟩
  · have hni : (6000 : Int) < (n : Int) := by omega
    go_enter Try.func5, Try.ntmps5
    go_wp2_with (go_at_call 20; (with_reducible refine (HA.out _).mono ?_); rintro e w1 ⟨rfl, hb⟩; have HB1 := hb; clear HA hb)
    all_goals go_ret
    all_goals exact ⟨rfl, HB1⟩
end Go.Proofs.Ytakajahogjeiaab.Wk
