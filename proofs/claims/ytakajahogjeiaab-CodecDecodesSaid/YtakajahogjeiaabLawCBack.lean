/- Walk: peloruslaw23.CodecBack. -/
import Derived.Test.YtakajahogjeiaabLawCCuts
import Derived.Test.YtakajahogjeiaabSameT
namespace Go.Proofs.Ytakajahogjeiaab.Wk
open Go.RowKit Go.Proofs.Pl Go.Proofs.YtakajahogjeiaabW.PrintLast
set_option linter.unusedSimpArgs false
set_option linter.unusedVariables false

theorem back_ops (ls : List Op) (hl : ls.length ≤ 256) (hu : ∀ x ∈ ls, U64O x) : Byt (encAll ls) ∧ (encAll ls).length ≤ 100000 ∧ (decO (encAll ls)).1.length ≤ 256 ∧
    ((encErr ls = 0 ∧ (decO (encAll ls)).2 = 0 ∧ decide (ls = (decO (encAll ls)).1) = true) ∨ encErr ls = 1) := by
  have hb : Byt (encAll ls) := by
    unfold encAll
    split
    · exact byt_encOps ls
    · intro x hx; simp at hx
  have hlen : (encAll ls).length ≤ 100000 := by
    have := encOps_length ls
    unfold encAll
    split
    · omega
    · simp
  have hd : (decO (encAll ls)).1.length ≤ 256 := by rcases once_ops _ hb with ⟨_, _, _, h⟩ | ⟨_, _, h⟩ <;> exact h
  refine ⟨hb, hlen, hd, ?_⟩
  by_cases ha : ls.all mayOp = true
  · left
    have e : encAll ls = encOps ls := by unfold encAll; rw [if_pos ha]
    have hk := ops_back ls hl (fun x hx => ⟨(List.all_eq_true.1 ha) x hx, hu x hx⟩)
    rw [e, hk]
    exact ⟨by unfold encErr; rw [if_pos ha], rfl, decide_eq_true rfl⟩
  · right
    unfold encErr
    rw [if_neg ha]
theorem back_tube (t : Tb) (hl : t.l.length ≤ 70) (hu : U64T t) : Byt (encTAll t) ∧
    ((encTErr t = 0 ∧ decTE (encTAll t) = 0 ∧ sameT t.s t.i t.l (decT (encTAll t)).s (decT (encTAll t)).i (decT (encTAll t)).l = true) ∨ (encTErr t = 1 ∧ decTE (encTAll t) = 2)) := by
  by_cases hm : mayT t = true
  · have e : encTAll t = encT t := by unfold encTAll; rw [if_pos hm]
    have h := tube_back t hm hu
    rw [e, h.1, h.2]
    refine ⟨byt_encT t (by omega), Or.inl ⟨by unfold encTErr; rw [if_pos hm], rfl, ?_⟩⟩
    unfold sameT
    simp
  · have e : encTAll t = [] := by unfold encTAll; rw [if_neg hm]
    rw [e]
    refine ⟨by intro x hx; simp at hx, Or.inr ⟨by unfold encTErr; rw [if_neg hm], ?_⟩⟩
    have hno : tOk [] = false := by
      cases hh : tOk []
      · rfl
      · have := tOk_inv [] (by intro x hx; simp at hx) hh
        have h2 := congrArg List.length this.1
        simp [encT] at h2
    exact (dec_no hno).2
set_option maxRecDepth 100000 in
set_option maxHeartbeats 8000000 in
theorem cback_calls (L : Option Addr) (m d : Nat) (ls : List Op) (s : Num) (i : Iv) (A : Option Addr) (n c : Nat) (xs : List Slc) (hv : ∀ x ∈ ls, U64O x) (hu : U64T ⟨s, i, xs⟩) (w : World) (hl : SlO w w.heap.size L m ls) (hs : SlT w w.heap.size A n xs) :
    Calls Try.prog 6 #[.slice L m d, .agg (tbCells s i (.slice A n c)).toArray] w fun e w' => e = .returned (.bool true) ∧ Below w.heap.size w w' := by
  have HL0 := bl_alloc (Below.refl w.heap.size w) (.cells (tbCells s i (.slice A n c)).toArray 34)
  have BT0 := Blk.new w 34 (tbCells s i (.slice A n c)).toArray
  have HA := Lib.hid (fun W => awake23_calls W)
  have HF := Lib.hid (fun W => fewX s i A n c W)
  by_cases hn : n ≤ 70
  · rw [decide_eq_true hn] at HF
    by_cases h1 : (256 : Int) < (m : Int)
    · skip
      go_enter Try.func6, Try.ntmps6
      go_wp2_with (first
        | (go_at_call 20; (with_reducible refine (HA.out _).mono ?_); rintro e w1 ⟨rfl, hb⟩; have HB1 := bl_trans HL0 hb; have BT1 := BT0.call hb; clear HA hb)
        | (refine wpList_load_row rfl 34 (.tmp 3) rfl w.heap.size rfl 34 (tbCells s i (.slice A n c)).toArray (0, 0) _ BT1 Try.underlying34 rfl (by kernel_rfl) ?_)
        | (go_at_call 21; (with_reducible refine (HF.out _).mono ?_); rintro e w2 ⟨rfl, hb⟩; have HB2 := bl_trans HB1 hb; have BT2 := BT1.call hb; clear HF hb))
      all_goals go_ret
      all_goals exact ⟨rfl, HB2⟩
    · have hm : m ≤ 256 := by omega
      have hml := hl.1
      have hxl := hs.1
      obtain ⟨ob, ol, od, oc⟩ := back_ops ls (by omega) hv
      obtain ⟨tb, tc⟩ := back_tube ⟨s, i, xs⟩ (by dsimp only; omega) hu
      dsimp only at tc
      have HE := Lib.hid (fun W h => encodeC_calls L m d ls W h hm)
      have HP := Lib.hid (fun W h => enctCX s i A n c xs W h)
      generalize encAll ls = U at ob ol od oc HE
      generalize encTAll ⟨s, i, xs⟩ = P at tb tc HP
      have HD := Lib.hid (fun A c W h h3 h4 => decode_calls A U.length c U W h ob h3 h4)
      have HT := Lib.hid (fun A c W h h3 h4 => dect_calls A P.length c P W h tb h3 h4)
      generalize decO U = D at od oc HD
      generalize decT P = t at tc HT
      obtain ⟨D1, eL⟩ := D
      obtain ⟨ts, ti, tl⟩ := t
      dsimp only at od oc tc HD HT
      have HS := Lib.hid (fun A2 c2 W h h' => sameO_calls L m d (by omega) ls A2 D1.length c2 D1 W h h')
      have HQ := Lib.hid (fun A2 c2 W h h' => sameT_calls s i A n c (by omega) xs ts ti A2 tl.length c2 tl W h h')
      generalize decide (ls = D1) = p at oc HS
      generalize sameT s i xs ts ti tl = q at tc HQ
      generalize encErr ls = eE at oc HE
      generalize encTErr ⟨s, i, xs⟩ = eT at tc HP
      generalize decTE P = eD at tc HT
      generalize U.length = nU at HE HD
      generalize P.length = nP at HP HT
      generalize D1.length = nD at HD HS
      generalize tl.length = nT at HT HQ
      have Hl := Lib.hid hl
      have Ht := Lib.hid hs
      clear hl hs hv hu ob ol od tb hml hxl
      rcases oc with ⟨rfl, rfl, rfl⟩ | rfl <;> rcases tc with ⟨rfl, rfl, rfl⟩ | ⟨rfl, rfl⟩
      all_goals
        go_enter Try.func6, Try.ntmps6
        go_wp2_with (first
          | (go_at_call 20; (with_reducible refine (HA.out _).mono ?_); rintro e w1 ⟨rfl, hb⟩; have HB1 := bl_trans HL0 hb; have BT1 := BT0.call hb; clear HA hb)
          | (refine wpList_load_row rfl 34 (.tmp 3) rfl w.heap.size rfl 34 (tbCells s i (.slice A n c)).toArray (0, 0) _ BT1 Try.underlying34 rfl (by kernel_rfl) ?_)
          | (go_at_call 21; (with_reducible refine (HF.out _).mono ?_); rintro e w2 ⟨rfl, hb⟩; have HB2 := bl_trans HB1 hb; have BT2 := BT1.call hb; have S2 := Hl.out.on' HB2; clear HF hb)
          | (go_at_call 29; (with_reducible refine (HE.out _ S2).mono ?_); rintro e w3 ⟨A3, c3, rfl, U3, ⟨k3, k3'⟩, hb⟩; have HB3 := bl_trans HB2 hb; have BT3 := BT2.call hb; clear HE hb)
          | (go_at_call 24; (with_reducible refine (HD.out _ _ _ U3 k3 k3').mono ?_); rintro e w4 ⟨A4, c4, rfl, D4, hb⟩; have HB4 := bl_trans HB3 hb; have BT4 := BT3.call hb; have T4 := Ht.out.on' HB4; clear HD hb)
          | (refine wpList_load_row rfl 34 (.tmp 3) rfl w.heap.size rfl 34 (tbCells s i (.slice A n c)).toArray (0, 0) _ BT4 Try.underlying34 rfl (by kernel_rfl) ?_)
          | (go_at_call 22; (with_reducible refine (HP.out _ T4).mono ?_); rintro e w5 ⟨A5, c5, rfl, P5, ⟨k5, k5'⟩, hb⟩; have HB5 := bl_trans HB4 hb; have BT5 := BT4.call hb; have D5 := D4.on' hb; clear HP hb)
          | (go_at_call 23; (with_reducible refine (HT.out _ _ _ P5 k5 k5').mono ?_); rintro e w6 ⟨A6, c6, rfl, T6, hb⟩; have HB6 := bl_trans HB5 hb; have BT6 := BT5.call hb; have D6 := D5.on' hb; clear HT hb)
          | (refine wpList_storeG rfl 34 (.tmp 13) (.tmp 50) rfl w6.heap.size _ (tbCells ts ti (.slice A6 nT c6)).toArray (Blk.new w6 _ _) rfl rfl (by kernel_rfl) rfl (tb_one _ _ _ _ _) ?_; intro W7 X7 G7 hs7; have hb := below_made G7; have HB7 := bl_trans HB6 hb; have BT7 := BT6.call hb; have D7 := D6.on' hb; have T7 := T6.on' hb; have L7 := Hl.out.on' HB7; clear hb G7 hs7)
          | (go_at_call 27; (with_reducible refine (HS.out _ _ _ L7 D7).mono ?_); rintro e w8 ⟨rfl, hb⟩; have HB8 := bl_trans HB7 hb; have BT8 := BT7.call hb; have X8 := X7.call hb; have T8 := T7.on' hb; have Z8 := Ht.out.on' HB8; clear HS hb)
          | (refine wpList_load_row rfl 34 (.tmp 3) rfl w.heap.size rfl 34 (tbCells s i (.slice A n c)).toArray (0, 0) _ BT8 Try.underlying34 rfl (by kernel_rfl) ?_)
          | (refine wpList_load_row rfl 34 (.tmp 13) rfl w6.heap.size rfl 34 (tbCells ts ti (.slice A6 nT c6)).toArray (0, 0) _ X8 Try.underlying34 rfl (by kernel_rfl) ?_)
          | (go_at_call 28; (with_reducible refine (HQ.out _ _ _ Z8 T8).mono ?_); rintro e w9 ⟨rfl, hb⟩; have HB9 := bl_trans HB8 hb; clear HQ hb))
        all_goals go_ret
        all_goals exact ⟨by simp, by assumption⟩
  · rw [decide_eq_false hn] at HF
    go_enter Try.func6, Try.ntmps6
    go_wp2_with (first
      | (go_at_call 20; (with_reducible refine (HA.out _).mono ?_); rintro e w1 ⟨rfl, hb⟩; have HB1 := bl_trans HL0 hb; have BT1 := BT0.call hb; clear HA hb)
      | (refine wpList_load_row rfl 34 (.tmp 3) rfl w.heap.size rfl 34 (tbCells s i (.slice A n c)).toArray (0, 0) _ BT1 Try.underlying34 rfl (by kernel_rfl) ?_)
      | (go_at_call 21; (with_reducible refine (HF.out _).mono ?_); rintro e w2 ⟨rfl, hb⟩; have HB2 := bl_trans HB1 hb; have BT2 := BT1.call hb; clear HF hb))
    all_goals go_ret
    all_goals exact ⟨rfl, HB2⟩
end Go.Proofs.Ytakajahogjeiaab.Wk
