/- Walk: peloruslaw23.CodecEncodes. -/
import Derived.Test.YtakajahogjeiaaaLawCJoins
import Derived.Test.YtakajahogjeiaaaTubD
namespace Go.Proofs.Ytakajahogjeiaaa.Wk
open Go.RowKit Go.Proofs.Pl Go.Proofs.YtakajahogjeiaaaW.PrintLast
set_option linter.unusedSimpArgs false
set_option linter.unusedVariables false

set_option maxRecDepth 100000 in
set_option maxHeartbeats 4000000 in
theorem enclong_calls (A : Option Addr) (n c : Nat) (w : World) (hn : 256 < n) :
    Calls Try.prog 17 #[.slice A n c] w fun e w' => ∃ A' c', e = .returned (.tuple #[.slice A' ([] : List Int).length c', .int .i64 3]) ∧ SlB w' w'.heap.size A' ([] : List Int).length [] ∧ Below w.heap.size w w' := by
  have hni : (256 : Int) < (n : Int) := by omega
  go_enter Try.func17, Try.ntmps17
  go_wp2
  go_ret2
  exact ⟨none, 0, rfl, ⟨rfl, fun h => absurd h (by simp)⟩, Below.refl _ _⟩
set_option maxRecDepth 100000 in
set_option maxHeartbeats 4000000 in
theorem renclong_calls (A : Option Addr) (n c : Nat) (w : World) (hn : 256 < n) :
    Calls Try.prog 25 #[.slice A n c] w fun e w' => ∃ A' c', e = .returned (.tuple #[.slice A' ([] : List Int).length c', .int .i64 3]) ∧ SlB w' w'.heap.size A' ([] : List Int).length [] ∧ Below w.heap.size w w' := by
  have hni : (256 : Int) < (n : Int) := by omega
  go_enter Try.func25, Try.ntmps25
  go_wp2
  go_ret2
  exact ⟨none, 0, rfl, ⟨rfl, fun h => absurd h (by simp)⟩, Below.refl _ _⟩

set_option maxRecDepth 100000 in
set_option maxHeartbeats 8000000 in
theorem cencodes_calls (L : Option Addr) (m d : Nat) (ls : List Op) (s0 : Int) (s1 : Bool) (s2 s3 : Int) (i0 : Bool) (i1 : Int) (i2 : Bool) (i3 i4 i5 : Int) (i6 : Bool) (i7 i8 : Int) (A : Option Addr) (n c : Nat) (xs : List Slc) (hu0 : U64 s2) (hu1 : U64I ⟨i0, ⟨i1, i2, i3, i4⟩, ⟨i5, i6, i7, i8⟩⟩) (hu : ∀ x ∈ xs, U64S x) (hv : ∀ x ∈ ls, U64O x) (w : World) (hl : SlO w w.heap.size L m ls) (hs : SlT w w.heap.size A n xs) :
    Calls Try.prog 9 #[.slice L m d, .agg #[.int .i64 s0, .bool s1, .int .u64 s2, .int .i64 s3, .bool i0, .int .i64 i1, .bool i2, .int .u64 i3, .int .i64 i4, .int .i64 i5, .bool i6, .int .u64 i7, .int .i64 i8, .slice A n c]] w fun e w' => e = .returned (.bool true) ∧ Below w.heap.size w w' := by
  have HL0 := bl_alloc (Below.refl w.heap.size w) (.cells #[.int .i64 s0, .bool s1, .int .u64 s2, .int .i64 s3, .bool i0, .int .i64 i1, .bool i2, .int .u64 i3, .int .i64 i4, .int .i64 i5, .bool i6, .int .u64 i7, .int .i64 i8, .slice A n c] 47)
  have BT0 := Blk.new w 47 #[.int .i64 s0, .bool s1, .int .u64 s2, .int .i64 s3, .bool i0, .int .i64 i1, .bool i2, .int .u64 i3, .int .i64 i4, .int .i64 i5, .bool i6, .int .u64 i7, .int .i64 i8, .slice A n c]
  have HA := Lib.hid (fun W => awake23_calls W)
  have HF := Lib.hid (fun W => few_calls s0 s1 s2 s3 i0 i1 i2 i3 i4 i5 i6 i7 i8 A n c W)
  have Hl := Lib.hid hl
  have Ht := Lib.hid hs
  have HP := Lib.hid (fun W h => enct_calls s0 s1 s2 s3 i0 i1 i2 i3 i4 i5 i6 i7 i8 A n c xs W h)
  have HQ := Lib.hid (fun W h => renct_calls s0 s1 s2 s3 i0 i1 i2 i3 i4 i5 i6 i7 i8 A n c xs hu0 hu1 hu W h)
  generalize encTAll ⟨⟨s0, s1, s2, s3⟩, ⟨i0, ⟨i1, i2, i3, i4⟩, ⟨i5, i6, i7, i8⟩⟩, xs⟩ = P at HP HQ
  generalize encTErr ⟨⟨s0, s1, s2, s3⟩, ⟨i0, ⟨i1, i2, i3, i4⟩, ⟨i5, i6, i7, i8⟩⟩, xs⟩ = ep at HP HQ
  by_cases hg : n ≤ 70 ∧ m ≤ 300
  · obtain ⟨hn, hm⟩ := hg
    have hmi : ¬ (300 : Int) < (m : Int) := by omega
    rw [decide_eq_true hn] at HF
    by_cases hq : m ≤ 256
    · have HX := Lib.hid (fun W h => encode_calls L m d ls W h hq)
      have HY := Lib.hid (fun W h => r23encode_calls L m d ls W h hv hq)
      generalize encAll ls = U at HX HY
      generalize encErr ls = eu at HX HY
      clear hl hs hu0 hu1 hu hv hq
      go_enter Try.func9, Try.ntmps9
      go_wp2_with (first
        | (go_at_call 16; (with_reducible refine (HA.out _).mono ?_); rintro e w1 ⟨rfl, hb⟩; have HB1 := bl_trans HL0 hb; have BT1 := BT0.call hb; have t0 := BT1.at_ 0 (u := .int .i64 s0) rfl; have t1 := BT1.at_ 1 (u := .bool s1) rfl; have t2 := BT1.at_ 2 (u := .int .u64 s2) rfl; have t3 := BT1.at_ 3 (u := .int .i64 s3) rfl; have t4 := BT1.at_ 4 (u := .bool i0) rfl; have t5 := BT1.at_ 5 (u := .int .i64 i1) rfl; have t6 := BT1.at_ 6 (u := .bool i2) rfl; have t7 := BT1.at_ 7 (u := .int .u64 i3) rfl; have t8 := BT1.at_ 8 (u := .int .i64 i4) rfl; have t9 := BT1.at_ 9 (u := .int .i64 i5) rfl; have t10 := BT1.at_ 10 (u := .bool i6) rfl; have t11 := BT1.at_ 11 (u := .int .u64 i7) rfl; have t12 := BT1.at_ 12 (u := .int .i64 i8) rfl; have t13 := BT1.at_ 13 (u := .slice A n c) rfl; clear HA hb)
        | (go_at_call 24; (with_reducible refine (HF.out _).mono ?_); rintro e w2 ⟨rfl, hb⟩; have HB2 := bl_trans HB1 hb; have BT2 := BT1.call hb; have S2 := Hl.out.on HB2; clear t0 t1 t2 t3 t4 t5 t6 t7 t8 t9 t10 t11 t12 t13; clear HF hb)
        | (go_at_call 17; (with_reducible refine (HX.out _ S2).mono ?_); rintro e w3 ⟨A1, c1, rfl, U3, hb⟩; have HB3 := bl_trans HB2 hb; have BT3 := BT2.call hb; have S3 := Hl.out.on HB3; clear HX hb)
        | (go_at_call 25; (with_reducible refine (HY.out _ S3).mono ?_); rintro e w4 ⟨A2, c2, rfl, V4, hb⟩; have HB4 := bl_trans HB3 hb; have BT4 := BT3.call hb; have U4 := U3.on hb; have S4 := Ht.out.on HB4; have t0 := BT4.at_ 0 (u := .int .i64 s0) rfl; have t1 := BT4.at_ 1 (u := .bool s1) rfl; have t2 := BT4.at_ 2 (u := .int .u64 s2) rfl; have t3 := BT4.at_ 3 (u := .int .i64 s3) rfl; have t4 := BT4.at_ 4 (u := .bool i0) rfl; have t5 := BT4.at_ 5 (u := .int .i64 i1) rfl; have t6 := BT4.at_ 6 (u := .bool i2) rfl; have t7 := BT4.at_ 7 (u := .int .u64 i3) rfl; have t8 := BT4.at_ 8 (u := .int .i64 i4) rfl; have t9 := BT4.at_ 9 (u := .int .i64 i5) rfl; have t10 := BT4.at_ 10 (u := .bool i6) rfl; have t11 := BT4.at_ 11 (u := .int .u64 i7) rfl; have t12 := BT4.at_ 12 (u := .int .i64 i8) rfl; have t13 := BT4.at_ 13 (u := .slice A n c) rfl; clear HY hb)
        | (go_at_call 26; (with_reducible refine (HP.out _ S4).mono ?_); rintro e w5 ⟨A3, c3, rfl, P5, hb⟩; have HB5 := bl_trans HB4 hb; have BT5 := BT4.call hb; have U5 := U4.on hb; have V5 := V4.on hb; have S5 := Ht.out.on HB5; clear t0 t1 t2 t3 t4 t5 t6 t7 t8 t9 t10 t11 t12 t13; have t0 := BT5.at_ 0 (u := .int .i64 s0) rfl; have t1 := BT5.at_ 1 (u := .bool s1) rfl; have t2 := BT5.at_ 2 (u := .int .u64 s2) rfl; have t3 := BT5.at_ 3 (u := .int .i64 s3) rfl; have t4 := BT5.at_ 4 (u := .bool i0) rfl; have t5 := BT5.at_ 5 (u := .int .i64 i1) rfl; have t6 := BT5.at_ 6 (u := .bool i2) rfl; have t7 := BT5.at_ 7 (u := .int .u64 i3) rfl; have t8 := BT5.at_ 8 (u := .int .i64 i4) rfl; have t9 := BT5.at_ 9 (u := .int .i64 i5) rfl; have t10 := BT5.at_ 10 (u := .bool i6) rfl; have t11 := BT5.at_ 11 (u := .int .u64 i7) rfl; have t12 := BT5.at_ 12 (u := .int .i64 i8) rfl; have t13 := BT5.at_ 13 (u := .slice A n c) rfl; clear HP hb)
        | (go_at_call 27; (with_reducible refine (HQ.out _ S5).mono ?_); rintro e w6 ⟨A4, c4, rfl, Q6, hb⟩; have HB6 := bl_trans HB5 hb; have T1 := (U5.on hb).str (c := c1); have T2 := (V5.on hb).str (c := c2); have T3 := (P5.on hb).str (c := c3); have T4 := Q6.str (c := c4); clear HQ hb))
      all_goals first
        | (exfalso; omega)
        | (go_ret; exact ⟨by first | rfl | simp, HB6⟩)
    · have HX := Lib.hid (fun (W : World) (_ : SlO W W.heap.size L m ls) => enclong_calls L m d W (by omega))
      have HY := Lib.hid (fun (W : World) (_ : SlO W W.heap.size L m ls) => renclong_calls L m d W (by omega))
      generalize ([] : List Int) = U at HX HY
      clear hl hs hu0 hu1 hu hv hq
      go_enter Try.func9, Try.ntmps9
      go_wp2_with (first
        | (go_at_call 16; (with_reducible refine (HA.out _).mono ?_); rintro e w1 ⟨rfl, hb⟩; have HB1 := bl_trans HL0 hb; have BT1 := BT0.call hb; have t0 := BT1.at_ 0 (u := .int .i64 s0) rfl; have t1 := BT1.at_ 1 (u := .bool s1) rfl; have t2 := BT1.at_ 2 (u := .int .u64 s2) rfl; have t3 := BT1.at_ 3 (u := .int .i64 s3) rfl; have t4 := BT1.at_ 4 (u := .bool i0) rfl; have t5 := BT1.at_ 5 (u := .int .i64 i1) rfl; have t6 := BT1.at_ 6 (u := .bool i2) rfl; have t7 := BT1.at_ 7 (u := .int .u64 i3) rfl; have t8 := BT1.at_ 8 (u := .int .i64 i4) rfl; have t9 := BT1.at_ 9 (u := .int .i64 i5) rfl; have t10 := BT1.at_ 10 (u := .bool i6) rfl; have t11 := BT1.at_ 11 (u := .int .u64 i7) rfl; have t12 := BT1.at_ 12 (u := .int .i64 i8) rfl; have t13 := BT1.at_ 13 (u := .slice A n c) rfl; clear HA hb)
        | (go_at_call 24; (with_reducible refine (HF.out _).mono ?_); rintro e w2 ⟨rfl, hb⟩; have HB2 := bl_trans HB1 hb; have BT2 := BT1.call hb; have S2 := Hl.out.on HB2; clear t0 t1 t2 t3 t4 t5 t6 t7 t8 t9 t10 t11 t12 t13; clear HF hb)
        | (go_at_call 17; (with_reducible refine (HX.out _ S2).mono ?_); rintro e w3 ⟨A1, c1, rfl, U3, hb⟩; have HB3 := bl_trans HB2 hb; have BT3 := BT2.call hb; have S3 := Hl.out.on HB3; clear HX hb)
        | (go_at_call 25; (with_reducible refine (HY.out _ S3).mono ?_); rintro e w4 ⟨A2, c2, rfl, V4, hb⟩; have HB4 := bl_trans HB3 hb; have BT4 := BT3.call hb; have U4 := U3.on hb; have S4 := Ht.out.on HB4; have t0 := BT4.at_ 0 (u := .int .i64 s0) rfl; have t1 := BT4.at_ 1 (u := .bool s1) rfl; have t2 := BT4.at_ 2 (u := .int .u64 s2) rfl; have t3 := BT4.at_ 3 (u := .int .i64 s3) rfl; have t4 := BT4.at_ 4 (u := .bool i0) rfl; have t5 := BT4.at_ 5 (u := .int .i64 i1) rfl; have t6 := BT4.at_ 6 (u := .bool i2) rfl; have t7 := BT4.at_ 7 (u := .int .u64 i3) rfl; have t8 := BT4.at_ 8 (u := .int .i64 i4) rfl; have t9 := BT4.at_ 9 (u := .int .i64 i5) rfl; have t10 := BT4.at_ 10 (u := .bool i6) rfl; have t11 := BT4.at_ 11 (u := .int .u64 i7) rfl; have t12 := BT4.at_ 12 (u := .int .i64 i8) rfl; have t13 := BT4.at_ 13 (u := .slice A n c) rfl; clear HY hb)
        | (go_at_call 26; (with_reducible refine (HP.out _ S4).mono ?_); rintro e w5 ⟨A3, c3, rfl, P5, hb⟩; have HB5 := bl_trans HB4 hb; have BT5 := BT4.call hb; have U5 := U4.on hb; have V5 := V4.on hb; have S5 := Ht.out.on HB5; clear t0 t1 t2 t3 t4 t5 t6 t7 t8 t9 t10 t11 t12 t13; have t0 := BT5.at_ 0 (u := .int .i64 s0) rfl; have t1 := BT5.at_ 1 (u := .bool s1) rfl; have t2 := BT5.at_ 2 (u := .int .u64 s2) rfl; have t3 := BT5.at_ 3 (u := .int .i64 s3) rfl; have t4 := BT5.at_ 4 (u := .bool i0) rfl; have t5 := BT5.at_ 5 (u := .int .i64 i1) rfl; have t6 := BT5.at_ 6 (u := .bool i2) rfl; have t7 := BT5.at_ 7 (u := .int .u64 i3) rfl; have t8 := BT5.at_ 8 (u := .int .i64 i4) rfl; have t9 := BT5.at_ 9 (u := .int .i64 i5) rfl; have t10 := BT5.at_ 10 (u := .bool i6) rfl; have t11 := BT5.at_ 11 (u := .int .u64 i7) rfl; have t12 := BT5.at_ 12 (u := .int .i64 i8) rfl; have t13 := BT5.at_ 13 (u := .slice A n c) rfl; clear HP hb)
        | (go_at_call 27; (with_reducible refine (HQ.out _ S5).mono ?_); rintro e w6 ⟨A4, c4, rfl, Q6, hb⟩; have HB6 := bl_trans HB5 hb; have T1 := (U5.on hb).str (c := c1); have T2 := (V5.on hb).str (c := c2); have T3 := (P5.on hb).str (c := c3); have T4 := Q6.str (c := c4); clear HQ hb))
      all_goals first
        | (exfalso; omega)
        | (go_ret; exact ⟨by first | rfl | simp, HB6⟩)
  · by_cases hn : n ≤ 70
    · have hmi : (300 : Int) < (m : Int) := by omega
      rw [decide_eq_true hn] at HF
      go_enter Try.func9, Try.ntmps9
      go_wp2_with (first
        | (go_at_call 16; (with_reducible refine (HA.out _).mono ?_); rintro e w1 ⟨rfl, hb⟩; have HB1 := bl_trans HL0 hb; have BT1 := BT0.call hb; have t0 := BT1.at_ 0 (u := .int .i64 s0) rfl; have t1 := BT1.at_ 1 (u := .bool s1) rfl; have t2 := BT1.at_ 2 (u := .int .u64 s2) rfl; have t3 := BT1.at_ 3 (u := .int .i64 s3) rfl; have t4 := BT1.at_ 4 (u := .bool i0) rfl; have t5 := BT1.at_ 5 (u := .int .i64 i1) rfl; have t6 := BT1.at_ 6 (u := .bool i2) rfl; have t7 := BT1.at_ 7 (u := .int .u64 i3) rfl; have t8 := BT1.at_ 8 (u := .int .i64 i4) rfl; have t9 := BT1.at_ 9 (u := .int .i64 i5) rfl; have t10 := BT1.at_ 10 (u := .bool i6) rfl; have t11 := BT1.at_ 11 (u := .int .u64 i7) rfl; have t12 := BT1.at_ 12 (u := .int .i64 i8) rfl; have t13 := BT1.at_ 13 (u := .slice A n c) rfl; clear HA hb)
        | (go_at_call 24; (with_reducible refine (HF.out _).mono ?_); rintro e w2 ⟨rfl, hb⟩; have HB2 := bl_trans HB1 hb; have BT2 := BT1.call hb; have S2 := Hl.out.on HB2; clear t0 t1 t2 t3 t4 t5 t6 t7 t8 t9 t10 t11 t12 t13; clear HF hb))
      go_ret
      exact ⟨rfl, HB2⟩
    · rw [decide_eq_false hn] at HF
      go_enter Try.func9, Try.ntmps9
      go_wp2_with (first
        | (go_at_call 16; (with_reducible refine (HA.out _).mono ?_); rintro e w1 ⟨rfl, hb⟩; have HB1 := bl_trans HL0 hb; have BT1 := BT0.call hb; have t0 := BT1.at_ 0 (u := .int .i64 s0) rfl; have t1 := BT1.at_ 1 (u := .bool s1) rfl; have t2 := BT1.at_ 2 (u := .int .u64 s2) rfl; have t3 := BT1.at_ 3 (u := .int .i64 s3) rfl; have t4 := BT1.at_ 4 (u := .bool i0) rfl; have t5 := BT1.at_ 5 (u := .int .i64 i1) rfl; have t6 := BT1.at_ 6 (u := .bool i2) rfl; have t7 := BT1.at_ 7 (u := .int .u64 i3) rfl; have t8 := BT1.at_ 8 (u := .int .i64 i4) rfl; have t9 := BT1.at_ 9 (u := .int .i64 i5) rfl; have t10 := BT1.at_ 10 (u := .bool i6) rfl; have t11 := BT1.at_ 11 (u := .int .u64 i7) rfl; have t12 := BT1.at_ 12 (u := .int .i64 i8) rfl; have t13 := BT1.at_ 13 (u := .slice A n c) rfl; clear HA hb)
        | (go_at_call 24; (with_reducible refine (HF.out _).mono ?_); rintro e w2 ⟨rfl, hb⟩; have HB2 := bl_trans HB1 hb; have BT2 := BT1.call hb; have S2 := Hl.out.on HB2; clear t0 t1 t2 t3 t4 t5 t6 t7 t8 t9 t10 t11 t12 t13; clear HF hb))
      go_ret
      exact ⟨rfl, HB2⟩
end Go.Proofs.Ytakajahogjeiaaa.Wk
