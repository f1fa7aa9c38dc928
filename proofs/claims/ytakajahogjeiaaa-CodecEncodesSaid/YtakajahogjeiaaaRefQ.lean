/- Walks: pelorusref23: putIv, May, Encode. -/
import Derived.Test.YtakajahogjeiaaaRefP
import Derived.Test.YtakajahogjeiaaaRefI
namespace Go.Proofs.Ytakajahogjeiaaa.Wk
open Go.RowKit Go.Proofs.Pl Go.Proofs.YtakajahogjeiaaaW.PrintLast
set_option linter.unusedSimpArgs false
set_option linter.unusedVariables false

/-- a number of 64 bits -/
def U64 (m : Int) : Prop := 0 ≤ m ∧ m < 18446744073709551616
def U64I (x : Iv) : Prop := U64 x.lo.m ∧ U64 x.hi.m
def U64O (x : Op) : Prop := U64 x.t.m ∧ U64I x.a ∧ U64I x.b ∧ U64I x.c

set_option maxRecDepth 100000 in
set_option maxHeartbeats 4000000 in
theorem rputIv_calls (base : Nat) (v : Value) (xs : List Int) (a0 : Bool) (a1 : Int) (a2 : Bool) (a3 a4 a5 : Int) (a6 : Bool) (a7 a8 : Int) (hm : U64 a3 ∧ U64 a7) (w : World) (hO : OwnB w base v xs) (hb : base ≤ w.heap.size) (hl : xs.length ≤ 700000) :
    Calls Try.prog 61 #[v, .agg #[.bool a0, .int .i64 a1, .bool a2, .int .u64 a3, .int .i64 a4, .int .i64 a5, .bool a6, .int .u64 a7, .int .i64 a8]] w fun e w' => ∃ v', e = .returned v' ∧ OwnB w' base v' (xs ++ encI ⟨a0, ⟨a1, a2, a3, a4⟩, ⟨a5, a6, a7, a8⟩⟩) ∧ Below base w w' ∧ KeepT w w' := by
  obtain ⟨A, n, c, rfl⟩ := hO.form
  unfold encI
  dsimp only
  have HO1 := hO.alloc (.cells #[.bool a0, .int .i64 a1, .bool a2, .int .u64 a3, .int .i64 a4, .int .i64 a5, .bool a6, .int .u64 a7, .int .i64 a8] 44)
  have HL1 := (Below.refl base w).alloc hb (.cells #[.bool a0, .int .i64 a1, .bool a2, .int .u64 a3, .int .i64 a4, .int .i64 a5, .bool a6, .int .u64 a7, .int .i64 a8] 44)
  have hb1 : base ≤ (w.alloc (.cells #[.bool a0, .int .i64 a1, .bool a2, .int .u64 a3, .int .i64 a4, .int .i64 a5, .bool a6, .int .u64 a7, .int .i64 a8] 44)).heap.size := by simp; omega
  have BX1 := Blk.new w 44 #[.bool a0, .int .i64 a1, .bool a2, .int .u64 a3, .int .i64 a4, .int .i64 a5, .bool a6, .int .u64 a7, .int .i64 a8]
  have K1 := (KeepT.refl w).alloc (.cells #[.bool a0, .int .i64 a1, .bool a2, .int .u64 a3, .int .i64 a4, .int .i64 a5, .bool a6, .int .u64 a7, .int .i64 a8] 44)
  cases a0
  · rw [if_neg (by simp)]
    have HN := Lib.hid (fun v' xs' W h1 h2 h3 => rputNum_calls base v' xs' a1 a2 a3 a4 hm.1.1 hm.1.2 W h1 h2 h3)
    have HM := Lib.hid (fun v' xs' W h1 h2 h3 => rputNum_calls base v' xs' a5 a6 a7 a8 hm.2.1 hm.2.2 W h1 h2 h3)
    have el := encN_length ⟨a1, a2, a3, a4⟩
    generalize encN ⟨a1, a2, a3, a4⟩ = n1 at HN el ⊢
    generalize encN ⟨a5, a6, a7, a8⟩ = n2 at HM ⊢
    go_enter Try.func61, Try.ntmps61
    go_wp2_with (first
      | (at_builtin; refine wpList_appB rfl (.tmp 10) (.tmp 11) rfl base _ xs rfl (HO1.alloc _) (w.heap.size + 1) 5 1 1 rfl (Blk.new1 w _ _ _) (by omega) (by simp; omega) ?_
         intro v3 W3 O3 hg3
         obtain ⟨A3, n3, c3, rfl⟩ := O3.form
         have HL3 := (HL1.alloc hb1 (.cells #[.int .u8 1] 5)).grown hg3 (by simp; omega) (fun k hk => (hO.lt k hk).1)
         have BX3 := (BX1.alloc _).grown hg3 (HO1.ne BX1 (by decide))
         have K3 := (K1.alloc (.cells #[.int .u8 1] 5)).app (HO1.alloc _) hg3
         have hb3 := Nat.le_trans hb HL3.size
         obtain ⟨⟨q0, q1, q2, q3, q4, q5, q6, q7, q8⟩, _⟩ := BX3.c9)
      | (go_at_call 60; first
        | ((with_reducible refine (HN.out _ _ _ O3 hb3 (by rw [List.length_append, List.length_singleton]; omega)).mono ?_); rintro e w4 ⟨v4, rfl, O4, hb, hk4⟩; have HL4 := HL3.trans hb; have K4 := K3.trans hk4; have hb4 := Nat.le_trans hb3 hb.size; have BX4 := hk4 _ _ _ (by decide) BX3; clear q0 q1 q2 q3 q4 q5 q6 q7 q8 HN; obtain ⟨⟨q0, q1, q2, q3, q4, q5, q6, q7, q8⟩, _⟩ := BX4.c9)
        | ((with_reducible refine (HM.out _ _ _ O4 hb4 (by rw [List.length_append, List.length_append, List.length_singleton]; omega)).mono ?_); rintro e w5 ⟨v5, rfl, O5, hb, hk5⟩; have HL5 := HL4.trans hb; have K5 := K4.trans hk5; clear HM)))
    go_ret
    refine ⟨_, rfl, ?_, HL5, K5⟩
    simp only [List.append_assoc, List.cons_append, List.nil_append] at O5 ⊢
    exact O5
  · rw [if_pos rfl]
    go_enter Try.func61, Try.ntmps61
    go_wp2_with (at_builtin; refine wpList_appB rfl (.tmp 7) (.tmp 8) rfl base _ xs rfl (HO1.alloc _) (w.heap.size + 1) 5 0 1 rfl (Blk.new1 w _ _ _) (by omega) (by simp; omega) ?_; intro v3 W3 O3 hg3; have HL3 := (HL1.alloc hb1 (.cells #[.int .u8 0] 5)).grown hg3 (by simp; omega) (fun k hk => (hO.lt k hk).1); have K3 := (K1.alloc (.cells #[.int .u8 0] 5)).app (HO1.alloc _) hg3)
    go_ret
    exact ⟨_, rfl, O3, HL3, K3⟩
set_option maxRecDepth 100000 in
set_option maxHeartbeats 4000000 in
theorem r23may_calls (k0 : Int) (t0 : Int) (t1 : Bool) (t2 t3 : Int) (a0 : Bool) (a1 : Int) (a2 : Bool) (a3 a4 a5 : Int) (a6 : Bool) (a7 a8 : Int) (b0 : Bool) (b1 : Int) (b2 : Bool) (b3 b4 b5 : Int) (b6 : Bool) (b7 b8 : Int) (c0 : Bool) (c1 : Int) (c2 : Bool) (c3 c4 c5 : Int) (c6 : Bool) (c7 c8 : Int) (w : World) :
    Calls Try.prog 59 #[.agg #[.int .i64 k0, .int .i64 t0, .bool t1, .int .u64 t2, .int .i64 t3, .bool a0, .int .i64 a1, .bool a2, .int .u64 a3, .int .i64 a4, .int .i64 a5, .bool a6, .int .u64 a7, .int .i64 a8, .bool b0, .int .i64 b1, .bool b2, .int .u64 b3, .int .i64 b4, .int .i64 b5, .bool b6, .int .u64 b7, .int .i64 b8, .bool c0, .int .i64 c1, .bool c2, .int .u64 c3, .int .i64 c4, .int .i64 c5, .bool c6, .int .u64 c7, .int .i64 c8]] w fun e w' => e = .returned (.bool (mayOp ⟨k0, ⟨t0, t1, t2, t3⟩, ⟨a0, ⟨a1, a2, a3, a4⟩, ⟨a5, a6, a7, a8⟩⟩, ⟨b0, ⟨b1, b2, b3, b4⟩, ⟨b5, b6, b7, b8⟩⟩, ⟨c0, ⟨c1, c2, c3, c4⟩, ⟨c5, c6, c7, c8⟩⟩⟩)) ∧ Below w.heap.size w w' := by
  have HN := Lib.hid (fun W => rmayN_calls t0 t1 t2 t3 W)
  have HA := Lib.hid (fun W => r8may_calls a0 a1 a2 a3 a4 a5 a6 a7 a8 W)
  have HB := Lib.hid (fun W => r8may_calls b0 b1 b2 b3 b4 b5 b6 b7 b8 W)
  have HC := Lib.hid (fun W => r8may_calls c0 c1 c2 c3 c4 c5 c6 c7 c8 W)
  unfold mayOp
  dsimp only
  generalize mayN ⟨t0, t1, t2, t3⟩ = m1 at HN ⊢
  generalize mayI ⟨a0, ⟨a1, a2, a3, a4⟩, ⟨a5, a6, a7, a8⟩⟩ = m2 at HA ⊢
  generalize mayI ⟨b0, ⟨b1, b2, b3, b4⟩, ⟨b5, b6, b7, b8⟩⟩ = m3 at HB ⊢
  generalize mayI ⟨c0, ⟨c1, c2, c3, c4⟩, ⟨c5, c6, c7, c8⟩⟩ = m4 at HC ⊢
  go_enter Try.func59, Try.ntmps59
  go_wp2_with (first
    | (go_at_call 78; (with_reducible refine (HN.out _).mono ?_); rintro e w1 ⟨rfl, hb⟩; have BX1 := (Blk.new w _ _).call hb; have HL1 := bl_trans (bl_alloc (Below.refl w.heap.size w) _) hb; have y5 := BX1.at_ 5 rfl; have y6 := BX1.at_ 6 rfl; have y7 := BX1.at_ 7 rfl; have y8 := BX1.at_ 8 rfl; have y9 := BX1.at_ 9 rfl; have y10 := BX1.at_ 10 rfl; have y11 := BX1.at_ 11 rfl; have y12 := BX1.at_ 12 rfl; have y13 := BX1.at_ 13 rfl; clear hb HN)
    | (go_at_call 38; first
      | ((with_reducible refine (HA.out _).mono ?_); rintro e w2 ⟨rfl, hb⟩; have BX2 := BX1.call hb; have HL2 := bl_trans HL1 hb; clear y5 y6 y7 y8 y9 y10 y11 y12 y13; have y14 := BX2.at_ 14 rfl; have y15 := BX2.at_ 15 rfl; have y16 := BX2.at_ 16 rfl; have y17 := BX2.at_ 17 rfl; have y18 := BX2.at_ 18 rfl; have y19 := BX2.at_ 19 rfl; have y20 := BX2.at_ 20 rfl; have y21 := BX2.at_ 21 rfl; have y22 := BX2.at_ 22 rfl; clear hb HA)
      | ((with_reducible refine (HB.out _).mono ?_); rintro e w3 ⟨rfl, hb⟩; have BX3 := BX2.call hb; have HL3 := bl_trans HL2 hb; clear y14 y15 y16 y17 y18 y19 y20 y21 y22; have y23 := BX3.at_ 23 rfl; have y24 := BX3.at_ 24 rfl; have y25 := BX3.at_ 25 rfl; have y26 := BX3.at_ 26 rfl; have y27 := BX3.at_ 27 rfl; have y28 := BX3.at_ 28 rfl; have y29 := BX3.at_ 29 rfl; have y30 := BX3.at_ 30 rfl; have y31 := BX3.at_ 31 rfl; clear hb HB)
      | ((with_reducible refine (HC.out _).mono ?_); rintro e w4 ⟨rfl, hb⟩; have BX4 := BX3.call hb; clear y23 y24 y25 y26 y27 y28 y29 y30 y31; have y0 := BX4.at_ 0 (u := .int .i64 k0) rfl; have HL4 := bl_trans HL3 hb; clear hb HC)))
  all_goals go_ret
  all_goals refine ⟨?_, HL4⟩
  all_goals first
    | rfl
    | (refine ret_boolC ?_; simp_all; done)
    | (refine ret_boolC ?_; simp_all; omega)
theorem r23mayOp_calls (x : Op) (w : World) : Calls Try.prog 59 #[.agg (opCells x).toArray] w fun e w' => e = .returned (.bool (mayOp x)) ∧ Below w.heap.size w w' := by
  obtain ⟨k0, ⟨t0, t1, t2, t3⟩, ⟨a0, ⟨a1, a2, a3, a4⟩, ⟨a5, a6, a7, a8⟩⟩, ⟨b0, ⟨b1, b2, b3, b4⟩, ⟨b5, b6, b7, b8⟩⟩, ⟨c0, ⟨c1, c2, c3, c4⟩, ⟨c5, c6, c7, c8⟩⟩⟩ := x
  exact r23may_calls k0 t0 t1 t2 t3 a0 a1 a2 a3 a4 a5 a6 a7 a8 b0 b1 b2 b3 b4 b5 b6 b7 b8 c0 c1 c2 c3 c4 c5 c6 c7 c8 w
theorem rputIvX_calls (base : Nat) (v : Value) (xs : List Int) (x : Iv) (hm : U64I x) (w : World) (hO : OwnB w base v xs) (hb : base ≤ w.heap.size) (hl : xs.length ≤ 700000) :
    Calls Try.prog 61 #[v, .agg #[.bool (x).emp, .int .i64 ((x).lo).k, .bool ((x).lo).n, .int .u64 ((x).lo).m, .int .i64 ((x).lo).e, .int .i64 ((x).hi).k, .bool ((x).hi).n, .int .u64 ((x).hi).m, .int .i64 ((x).hi).e]] w fun e w' => ∃ v', e = .returned v' ∧ OwnB w' base v' (xs ++ encI x) ∧ Below base w w' ∧ KeepT w w' := by
  obtain ⟨a0, ⟨a1, a2, a3, a4⟩, ⟨a5, a6, a7, a8⟩⟩ := x
  exact rputIv_calls base v xs a0 a1 a2 a3 a4 a5 a6 a7 a8 hm w hO hb hl
theorem rputNumX_calls (base : Nat) (v : Value) (xs : List Int) (x : Num) (hm : U64 x.m) (w : World) (hO : OwnB w base v xs) (hb : base ≤ w.heap.size) (hl : xs.length ≤ 800000) :
    Calls Try.prog 60 #[v, .agg #[.int .i64 (x).k, .bool (x).n, .int .u64 (x).m, .int .i64 (x).e]] w fun e w' => ∃ v', e = .returned v' ∧ OwnB w' base v' (xs ++ encN x) ∧ Below base w w' ∧ KeepT w w' := by
  obtain ⟨x0, x1, x2, x3⟩ := x
  exact rputNum_calls base v xs x0 x1 x2 x3 hm.1 hm.2 w hO hb hl
end Go.Proofs.Ytakajahogjeiaaa.Wk
