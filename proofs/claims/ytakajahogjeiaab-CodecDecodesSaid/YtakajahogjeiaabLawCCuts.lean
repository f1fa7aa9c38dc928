/- Walk: peloruslaw23.CodecCuts. -/
import Derived.Test.YtakajahogjeiaabEncX
namespace Go.Proofs.Ytakajahogjeiaab.Wk
open Go.RowKit Go.Proofs.Pl Go.Proofs.YtakajahogjeiaabW.PrintLast
set_option linter.unusedSimpArgs false
set_option linter.unusedVariables false

theorem enctCX (s : Num) (i : Iv) (A : Option Addr) (n c : Nat) (xs : List Slc) (w : World) (hs : SlT w w.heap.size A n xs) :
    Calls Try.prog 22 #[.agg (tbCells s i (.slice A n c)).toArray] w fun e w' => ∃ A' c', e = .returned (.tuple #[.slice A' (encTAll ⟨s, i, xs⟩).length c', .int .i64 (encTErr ⟨s, i, xs⟩)]) ∧ SlB w' w'.heap.size A' (encTAll ⟨s, i, xs⟩).length (encTAll ⟨s, i, xs⟩) ∧ ((encTAll ⟨s, i, xs⟩).length ≤ c' ∧ c' ≤ 9223372036854775807) ∧ Below w.heap.size w w' := by
  obtain ⟨s0, s1, s2, s3⟩ := s
  obtain ⟨i0, ⟨i1, i2, i3, i4⟩, ⟨i5, i6, i7, i8⟩⟩ := i
  exact enctC_calls s0 s1 s2 s3 i0 i1 i2 i3 i4 i5 i6 i7 i8 A n c xs w hs
theorem fewX (s : Num) (i : Iv) (A : Option Addr) (n c : Nat) (w : World) :
    Calls Try.prog 21 #[.agg (tbCells s i (.slice A n c)).toArray] w fun e w' => e = .returned (.bool (decide (n ≤ 70))) ∧ Below w.heap.size w w' := by
  obtain ⟨s0, s1, s2, s3⟩ := s
  obtain ⟨i0, ⟨i1, i2, i3, i4⟩, ⟨i5, i6, i7, i8⟩⟩ := i
  exact few_calls s0 s1 s2 s3 i0 i1 i2 i3 i4 i5 i6 i7 i8 A n c w
theorem encT_length (t : Tb) (h : t.l.length ≤ 70) : 0 < (encT t).length ∧ (encT t).length ≤ 5000 := by
  have h1 := encN_length t.s
  have h2 := encI_length t.i
  have h3 := encSs_length t.l
  simp only [encT, List.length_append, List.length_singleton]
  omega
/-- bytes at the call's own end -/
theorem OwnB.same' {w w' : World} {base : Nat} {v : Value} {xs : List Int} (h : OwnB w base v xs) (hb : Below w.heap.size w w') : OwnB w' base v xs := h.same fun g hg => hb.block g (h.lt g hg).2
set_option maxRecDepth 100000 in
set_option maxHeartbeats 8000000 in
theorem ccuts_calls (s : Num) (i : Iv) (A : Option Addr) (n c : Nat) (xs : List Slc) (k : Int) (M : Option Addr) (m d : Nat) (ms : List Int) (hu : U64T ⟨s, i, xs⟩) (w : World) (hs : SlT w w.heap.size A n xs) (hM : SlB w w.heap.size M m ms) (hby : Byt ms) :
    Calls Try.prog 4 #[.agg (tbCells s i (.slice A n c)).toArray, .int .i64 k, .slice M m d] w fun e w' => e = .returned (.bool true) ∧ Below w.heap.size w w' := by
  have HL0 := bl_alloc (Below.refl w.heap.size w) (.cells (tbCells s i (.slice A n c)).toArray 34)
  have BT0 := Blk.new w 34 (tbCells s i (.slice A n c)).toArray
  have HA := Lib.hid (fun W => awake23_calls W)
  have HF := Lib.hid (fun W => fewX s i A n c W)
  by_cases hn : n ≤ 70
  · rw [decide_eq_true hn] at HF
    by_cases h1 : (m : Int) < 1
    · skip
      go_enter Try.func4, Try.ntmps4
      go_wp2_with (first
        | (go_at_call 20; (with_reducible refine (HA.out _).mono ?_); rintro e w1 ⟨rfl, hb⟩; have HB1 := bl_trans HL0 hb; have BT1 := BT0.call hb; clear HA hb)
        | (refine wpList_load_row rfl 34 (.tmp 3) rfl w.heap.size rfl 34 (tbCells s i (.slice A n c)).toArray (0, 0) _ BT1 Try.underlying34 rfl (by kernel_rfl) ?_)
        | (go_at_call 21; (with_reducible refine (HF.out _).mono ?_); rintro e w2 ⟨rfl, hb⟩; have HB2 := bl_trans HB1 hb; have BT2 := BT1.call hb; clear HF hb))
      all_goals go_ret
      all_goals exact ⟨rfl, HB2⟩
    · by_cases h2 : (100 : Int) < (m : Int)
      · skip
        go_enter Try.func4, Try.ntmps4
        go_wp2_with (first
          | (go_at_call 20; (with_reducible refine (HA.out _).mono ?_); rintro e w1 ⟨rfl, hb⟩; have HB1 := bl_trans HL0 hb; have BT1 := BT0.call hb; clear HA hb)
          | (refine wpList_load_row rfl 34 (.tmp 3) rfl w.heap.size rfl 34 (tbCells s i (.slice A n c)).toArray (0, 0) _ BT1 Try.underlying34 rfl (by kernel_rfl) ?_)
          | (go_at_call 21; (with_reducible refine (HF.out _).mono ?_); rintro e w2 ⟨rfl, hb⟩; have HB2 := bl_trans HB1 hb; have BT2 := BT1.call hb; clear HF hb))
        all_goals go_ret
        all_goals exact ⟨rfl, HB2⟩
      · by_cases h3 : k < 0
        · skip
          go_enter Try.func4, Try.ntmps4
          go_wp2_with (first
            | (go_at_call 20; (with_reducible refine (HA.out _).mono ?_); rintro e w1 ⟨rfl, hb⟩; have HB1 := bl_trans HL0 hb; have BT1 := BT0.call hb; clear HA hb)
            | (refine wpList_load_row rfl 34 (.tmp 3) rfl w.heap.size rfl 34 (tbCells s i (.slice A n c)).toArray (0, 0) _ BT1 Try.underlying34 rfl (by kernel_rfl) ?_)
            | (go_at_call 21; (with_reducible refine (HF.out _).mono ?_); rintro e w2 ⟨rfl, hb⟩; have HB2 := bl_trans HB1 hb; have BT2 := BT1.call hb; clear HF hb))
          all_goals go_ret
          all_goals exact ⟨rfl, HB2⟩
        · obtain ⟨K, rfl⟩ := Int.eq_ofNat_of_zero_le (show 0 ≤ k by omega)
          have HP := Lib.hid (fun W h => enctCX s i A n c xs W h)
          have hxl := hs.1
          have Ht := Lib.hid hs
          have HMs := Lib.hid hM
          have hK0 : 0 ≤ (K : Int) := by omega
          by_cases hmt : mayT ⟨s, i, xs⟩ = true
          · have hlen := encT_length ⟨s, i, xs⟩ (by dsimp only; omega)
            have hPb := byt_encT ⟨s, i, xs⟩ (by dsimp only; omega)
            have hcut := Lib.hid (tube_cut ⟨s, i, xs⟩ hmt hu hPb)
            have hmore := Lib.hid (tube_more ⟨s, i, xs⟩ hmt hu)
            rw [show encTAll ⟨s, i, xs⟩ = encT ⟨s, i, xs⟩ from by unfold encTAll; rw [if_pos hmt], show encTErr ⟨s, i, xs⟩ = 0 from by unfold encTErr; rw [if_pos hmt]] at HP
            generalize encT ⟨s, i, xs⟩ = P at HP hlen hPb hcut hmore
            obtain ⟨hp0, hp1⟩ := hlen
            by_cases hKl : K < P.length
            · have hKi : ¬ ((P.length : Int) ≤ (K : Int)) := by omega
              have hd1 := hcut.out K hKl
              have hd2 := hmore.out ms (by intro e; rw [e] at hM; have := hM.1; simp at this; omega)
              have HD1 := Lib.hid (fun A c W h h3 h4 => dect_calls A K c (P.take K) W h (fun x hx => hPb x (List.mem_of_mem_take hx)) h3 h4)
              have HD2 := Lib.hid (fun A n c W h h3 h4 => dect_calls A n c (P ++ ms) W h (hPb.app hby) h3 h4)
              obtain ⟨R, hR⟩ : ∃ R, P ++ ms = R := ⟨_, rfl⟩
              rw [hR] at HD2 hd2
              have HR := Lib.hid hR
              rw [hd1] at HD1
              rw [hd2] at HD2
              generalize decT (P.take K) = t1 at HD1
              generalize decT R = t2 at HD2
              obtain ⟨ts1, ti1, tl1⟩ := t1
              obtain ⟨ts2, ti2, tl2⟩ := t2
              dsimp only at HD1 HD2
              generalize tl1.length = n1 at HD1
              generalize tl2.length = n2 at HD2
              have hml := hM.1
              have HPl := Lib.hid (show 0 < P.length ∧ P.length ≤ 5000 ∧ K < P.length ∧ ms.length = m ∧ 1 ≤ m ∧ m ≤ 100 from ⟨hp0, hp1, hKl, hml, by omega, by omega⟩)
              clear hs hM hcut hmore hd1 hd2 hml hR
              generalize hPL : P.length = nP at HP hKi hp0 hp1 hKl
              have HPL := Lib.hid hPL
              clear hPL
              go_enter Try.func4, Try.ntmps4
              go_wp2_with (first
                | (go_at_call 20; (with_reducible refine (HA.out _).mono ?_); rintro e w1 ⟨rfl, hb⟩; have HB1 := bl_trans HL0 hb; have BT1 := BT0.call hb; clear HA hb)
                | (refine wpList_load_row rfl 34 (.tmp 3) rfl w.heap.size rfl 34 (tbCells s i (.slice A n c)).toArray (0, 0) _ BT1 Try.underlying34 rfl (by kernel_rfl) ?_)
                | (go_at_call 21; (with_reducible refine (HF.out _).mono ?_); rintro e w2 ⟨rfl, hb⟩; have HB2 := bl_trans HB1 hb; have BT2 := BT1.call hb; have S2 := Ht.out.on' HB2; clear HF hb)
                | (refine wpList_load_row rfl 34 (.tmp 3) rfl w.heap.size rfl 34 (tbCells s i (.slice A n c)).toArray (0, 0) _ BT2 Try.underlying34 rfl (by kernel_rfl) ?_)
                | (go_at_call 22; (with_reducible refine (HP.out _ S2).mono ?_); rintro e w3 ⟨A3, c3, rfl, P3, ⟨k3, k4⟩, hb⟩; have HB3 := bl_trans HB2 hb; clear HP hb)
                | (refine wpList_to rfl (.tmp 53) (.tmp 54) rfl rfl rfl P3 (Nat.le_of_lt hKl) k3 ?_; intro A4 S4)
                | (go_at_call 23; first
                  | ((with_reducible refine (HD1.out _ _ _ S4 (by omega) (by omega)).mono ?_); rintro e w5 ⟨A5, c5, rfl, T5, hb⟩; have HB5 := bl_trans HB3 hb; have P5 := P3.on hb; clear HD1 hb)
                  | ((with_reducible refine (HD2.out _ _ _ _ S9 k9 k10).mono ?_); rintro e w10 ⟨A10, c10, rfl, T10, hb⟩; have HB10 := bl_trans HB8 hb; clear HD2 hb))
                | (refine wpList_storeG rfl 34 (.tmp 11) (.tmp 57) rfl w5.heap.size _ (tbCells ts1 ti1 (.slice A5 n1 c5)).toArray (Blk.new w5 _ _) rfl rfl (by kernel_rfl) rfl (tb_one _ _ _ _ _) ?_; intro W6 X6 G6 hs6; have hb := below_made G6; have HB6 := bl_trans HB5 hb; have P6 := P5.on hb; have M6 := HMs.out.on HB6; obtain ⟨pb, po, rfl, hpb, hpc⟩ := P6.2 hp0; have P6' : SlB W6 W6.heap.size (some ⟨pb, po, none⟩) nP P := P6; clear hb G6 hs6)
                | (at_builtin; refine wpList_appBs rfl (.const (.slice none 0 0)) (.tmp 60) rfl w.heap.size (.slice none 0 0) [] rfl (OwnB.nil _ _) _ pb po nP _ P rfl P6' hp0 (by have := HPl.out; simp <;> omega) HB6.size ?_; intro v7 w7 O7 G7; have HB7 := HB6.grown G7 HB6.size (fun k hk => by cases hk); obtain ⟨A7, c7, rfl, S7⟩ := O7.sl; have M7 := HMs.out.on HB7; obtain ⟨mb, mo, rfl, hmb, hmc⟩ := M7.2 (by have := HPl.out; omega); have M7' : SlB w7 w7.heap.size (some ⟨mb, mo, none⟩) m ms := M7)
                | (at_builtin; refine wpList_appBs rfl (.tmp 61) (.tmp 62) rfl w.heap.size _ _ rfl O7 _ mb mo m _ ms rfl M7' (by have := HPl.out; omega) (by have := HPl.out; have := HPL.out; simp <;> omega) HB7.size ?_; intro v8 w8 O8 G8; have HB8 := HB7.grown G8 HB7.size (fun k hk => (O7.lt k hk).1); rw [List.nil_append, HR.out] at O8; obtain ⟨A8, c8, rfl, S8⟩ := O8.sl; obtain ⟨k9, k10⟩ := O8.cap; have S9 := S8)
                | (refine wpList_storeG rfl 34 (.tmp 13) (.tmp 65) rfl w10.heap.size _ (tbCells ts2 ti2 (.slice A10 n2 c10)).toArray (Blk.new w10 _ _) rfl rfl (by kernel_rfl) rfl (tb_one _ _ _ _ _) ?_; intro W11 X11 G11 hs11; have hb := below_made G11; have HB11 := bl_trans HB10 hb; clear hb G11 hs11))
              all_goals go_ret
              all_goals exact ⟨rfl, HB11⟩
            · have hKi : (P.length : Int) ≤ (K : Int) := by omega
              generalize P.length = nP at HP hKi
              go_enter Try.func4, Try.ntmps4
              go_wp2_with (first
                | (go_at_call 20; (with_reducible refine (HA.out _).mono ?_); rintro e w1 ⟨rfl, hb⟩; have HB1 := bl_trans HL0 hb; have BT1 := BT0.call hb; clear HA hb)
                | (refine wpList_load_row rfl 34 (.tmp 3) rfl w.heap.size rfl 34 (tbCells s i (.slice A n c)).toArray (0, 0) _ BT1 Try.underlying34 rfl (by kernel_rfl) ?_)
                | (go_at_call 21; (with_reducible refine (HF.out _).mono ?_); rintro e w2 ⟨rfl, hb⟩; have HB2 := bl_trans HB1 hb; have BT2 := BT1.call hb; have S2 := Ht.out.on' HB2; clear HF hb)
                | (refine wpList_load_row rfl 34 (.tmp 3) rfl w.heap.size rfl 34 (tbCells s i (.slice A n c)).toArray (0, 0) _ BT2 Try.underlying34 rfl (by kernel_rfl) ?_)
                | (go_at_call 22; (with_reducible refine (HP.out _ S2).mono ?_); rintro e w3 ⟨A3, c3, rfl, P3, ⟨k3, k4⟩, hb⟩; have HB3 := bl_trans HB2 hb; clear HP hb)
                )
              all_goals go_ret
              all_goals exact ⟨rfl, HB3⟩
          · rw [show encTErr ⟨s, i, xs⟩ = 1 from by unfold encTErr; rw [if_neg hmt]] at HP
            generalize encTAll ⟨s, i, xs⟩ = P at HP
            generalize P.length = nP at HP
            go_enter Try.func4, Try.ntmps4
            go_wp2_with (first
              | (go_at_call 20; (with_reducible refine (HA.out _).mono ?_); rintro e w1 ⟨rfl, hb⟩; have HB1 := bl_trans HL0 hb; have BT1 := BT0.call hb; clear HA hb)
              | (refine wpList_load_row rfl 34 (.tmp 3) rfl w.heap.size rfl 34 (tbCells s i (.slice A n c)).toArray (0, 0) _ BT1 Try.underlying34 rfl (by kernel_rfl) ?_)
              | (go_at_call 21; (with_reducible refine (HF.out _).mono ?_); rintro e w2 ⟨rfl, hb⟩; have HB2 := bl_trans HB1 hb; have BT2 := BT1.call hb; have S2 := Ht.out.on' HB2; clear HF hb)
              | (refine wpList_load_row rfl 34 (.tmp 3) rfl w.heap.size rfl 34 (tbCells s i (.slice A n c)).toArray (0, 0) _ BT2 Try.underlying34 rfl (by kernel_rfl) ?_)
              | (go_at_call 22; (with_reducible refine (HP.out _ S2).mono ?_); rintro e w3 ⟨A3, c3, rfl, P3, ⟨k3, k4⟩, hb⟩; have HB3 := bl_trans HB2 hb; clear HP hb)
              )
            all_goals go_ret
            all_goals exact ⟨rfl, HB3⟩
  · rw [decide_eq_false hn] at HF
    go_enter Try.func4, Try.ntmps4
    go_wp2_with (first
      | (go_at_call 20; (with_reducible refine (HA.out _).mono ?_); rintro e w1 ⟨rfl, hb⟩; have HB1 := bl_trans HL0 hb; have BT1 := BT0.call hb; clear HA hb)
      | (refine wpList_load_row rfl 34 (.tmp 3) rfl w.heap.size rfl 34 (tbCells s i (.slice A n c)).toArray (0, 0) _ BT1 Try.underlying34 rfl (by kernel_rfl) ?_)
      | (go_at_call 21; (with_reducible refine (HF.out _).mono ?_); rintro e w2 ⟨rfl, hb⟩; have HB2 := bl_trans HB1 hb; have BT2 := BT1.call hb; clear HF hb))
    all_goals go_ret
    all_goals exact ⟨rfl, HB2⟩
end Go.Proofs.Ytakajahogjeiaab.Wk
