import Derived.Test.YteabdeohhmbclaaGreatGrAy
import Derived.Test.YteabdeohhmbclaaGreatRefYy
namespace Go.Proofs.YteabdeohhmbclaaGreat.Wk
open Go.RowKit Go.Proofs.Pl Go.Proofs.YteabdeohhmbclaaGreatW.PrintLast
set_option linter.unusedSimpArgs false
set_option linter.unusedVariables false
set_option maxRecDepth 100000 in
set_option maxHeartbeats 1000000 in
theorem rtouch_calls (a0 : Bool) (a1 : Int) (a2 : Bool) (a3 a4 a5 : Int) (a6 : Bool) (a7 a8 : Int) (b0 : Bool) (b1 : Int) (b2 : Bool) (b3 b4 b5 : Int) (b6 : Bool) (b7 b8 : Int) (k : Int) (c0 : Bool) (c1 : Int) (c2 : Bool) (c3 c4 c5 : Int) (c6 : Bool) (c7 c8 : Int) (d0 : Bool) (d1 : Int) (d2 : Bool) (d3 d4 d5 : Int) (d6 : Bool) (d7 d8 : Int) (l : Int) (w : World) :
  Calls Tryz.prog 13 #[.agg #[.b a0, .i a1, .b a2, .u a3, .i a4, .i a5, .b a6, .u a7, .i a8, .b b0, .i b1, .b b2, .u b3, .i b4, .i b5, .b b6, .u b7, .i b8], .agg #[.b c0, .i c1, .b c2, .u c3, .i c4, .i c5, .b c6, .u c7, .i c8, .b d0, .i d1, .b d2, .u d3, .i d4, .i d5, .b d6, .u d7, .i d8]] w fun e w' => e = .returned (.b (touchI ⟨⟨⟨a0, ⟨a1, a2, a3, a4⟩, ⟨a5, a6, a7, a8⟩⟩, ⟨b0, ⟨b1, b2, b3, b4⟩, ⟨b5, b6, b7, b8⟩⟩⟩, k⟩ ⟨⟨⟨c0, ⟨c1, c2, c3, c4⟩, ⟨c5, c6, c7, c8⟩⟩, ⟨d0, ⟨d1, d2, d3, d4⟩, ⟨d5, d6, d7, d8⟩⟩⟩, l⟩)) ∧ Below w.heap.size w w' := by
 unfold touchI
 have HM := (fun W => r8two_calls a0 a1 a2 a3 a4 a5 a6 a7 a8 c0 c1 c2 c3 c4 c5 c6 c7 c8 W)
 have HN := (fun W => r8two_calls b0 b1 b2 b3 b4 b5 b6 b7 b8 d0 d1 d2 d3 d4 d5 d6 d7 d8 W)
 simp only [two_eq] at HM HN
 dsimp only at HM HN ⊢
 generalize meetI [⟨a0, ⟨a1, a2, a3, a4⟩, ⟨a5, a6, a7, a8⟩⟩, ⟨c0, ⟨c1, c2, c3, c4⟩, ⟨c5, c6, c7, c8⟩⟩] = r at HM ⊢
 generalize meetI [⟨b0, ⟨b1, b2, b3, b4⟩, ⟨b5, b6, b7, b8⟩⟩, ⟨d0, ⟨d1, d2, d3, d4⟩, ⟨d5, d6, d7, d8⟩⟩] = q at HN ⊢
 obtain ⟨r0, ⟨r1, r2, r3, r4⟩, ⟨r5, r6, r7, r8⟩⟩ := r
 obtain ⟨q0, ⟨q1, q2, q3, q4⟩, ⟨q5, q6, q7, q8⟩⟩ := q
 dsimp only at HM HN ⊢
 replace HM := Lib.hid HM
 replace HN := Lib.hid HN
 have BA : Blk _ w.heap.size 41 #[.b a0, .i a1, .b a2, .u a3, .i a4, .i a5, .b a6, .u a7, .i a8, .b b0, .i b1, .b b2, .u b3, .i b4, .i b5, .b b6, .u b7, .i b8] := (Blk.new w _ _).alloc (.cells #[.b c0, .i c1, .b c2, .u c3, .i c4, .i c5, .b c6, .u c7, .i c8, .b d0, .i d1, .b d2, .u d3, .i d4, .i d5, .b d6, .u d7, .i d8] 41)
 have BC : Blk _ (w.heap.size + 1) 41 #[.b c0, .i c1, .b c2, .u c3, .i c4, .i c5, .b c6, .u c7, .i c8, .b d0, .i d1, .b d2, .u d3, .i d4, .i d5, .b d6, .u d7, .i d8] := Blk.new1 w (.cells #[.b a0, .i a1, .b a2, .u a3, .i a4, .i a5, .b a6, .u a7, .i a8, .b b0, .i b1, .b b2, .u b3, .i b4, .i b5, .b b6, .u b7, .i b8] 41) _ _
 have HBd := bl_alloc (bl_alloc (Below.refl w.heap.size w) (.cells #[.b a0, .i a1, .b a2, .u a3, .i a4, .i a5, .b a6, .u a7, .i a8, .b b0, .i b1, .b b2, .u b3, .i b4, .i b5, .b b6, .u b7, .i b8] 41)) (.cells #[.b c0, .i c1, .b c2, .u c3, .i c4, .i c5, .b c6, .u c7, .i c8, .b d0, .i d1, .b d2, .u d3, .i d4, .i d5, .b d6, .u d7, .i d8] 41)
 have R1 := BA.range 0 [.b a0, .i a1, .b a2, .u a3, .i a4, .i a5, .b a6, .u a7, .i a8] rfl
 have R2 := BC.range 0 [.b c0, .i c1, .b c2, .u c3, .i c4, .i c5, .b c6, .u c7, .i c8] rfl
 cases r0
 ·go_enter Tryz.func13, Tryz.ntmps13
  go_wp2_with (first
   | (refine wpList_ldG (by rfl) 34 (.tmp 7) rfl w.heap.size 0 rfl [.b a0, .i a1, .b a2, .u a3, .i a4, .i a5, .b a6, .u a7, .i a8] _ R1 Tryz.underlying34 rfl (by kernel_rfl) ?_)
   | (refine wpList_ldG (by rfl) 34 (.tmp 9) rfl (w.heap.size + 1) 0 rfl [.b c0, .i c1, .b c2, .u c3, .i c4, .i c5, .b c6, .u c7, .i c8] _ R2 Tryz.underlying34 rfl (by kernel_rfl) ?_)
   | (refine wpList_ldG (by rfl) 34 (.tmp 12) rfl w.heap.size 9 rfl [.b b0, .i b1, .b b2, .u b3, .i b4, .i b5, .b b6, .u b7, .i b8] _ R3 Tryz.underlying34 rfl (by kernel_rfl) ?_)
   | (refine wpList_ldG (by rfl) 34 (.tmp 14) rfl (w.heap.size + 1) 9 rfl [.b d0, .i d1, .b d2, .u d3, .i d4, .i d5, .b d6, .u d7, .i d8] _ R4 Tryz.underlying34 rfl (by kernel_rfl) ?_)
   | (go_at_call 25; first
    | ((with_reducible refine (HM.out _).mono ?_); rintro e w1 ⟨rfl, hb⟩; have C1 := ((BC.call hb).alloc (.cells #[.b false, .i r1, .b r2, .u r3, .i r4, .i r5, .b r6, .u r7, .i r8] 34)); have A1 := ((BA.call hb).alloc (.cells #[.b false, .i r1, .b r2, .u r3, .i r4, .i r5, .b r6, .u r7, .i r8] 34)); have R3 := A1.range 9 [.b b0, .i b1, .b b2, .u b3, .i b4, .i b5, .b b6, .u b7, .i b8] rfl; have R4 := C1.range 9 [.b d0, .i d1, .b d2, .u d3, .i d4, .i d5, .b d6, .u d7, .i d8] rfl; have BX := Blk.new w1 34 #[.b false, .i r1, .b r2, .u r3, .i r4, .i r5, .b r6, .u r7, .i r8]; have HB1 := bl_alloc (bl_trans HBd hb) (.cells #[.b false, .i r1, .b r2, .u r3, .i r4, .i r5, .b r6, .u r7, .i r8] 34); clear hb A1 C1 HM R1 R2 BA BC HBd)
    | ((with_reducible refine (HN.out _).mono ?_); rintro e w2 ⟨rfl, hb⟩; have k0 := ((BX.call hb).alloc (.cells #[.b q0, .i q1, .b q2, .u q3, .i q4, .i q5, .b q6, .u q7, .i q8] 34)).cell 0; have HB2 := bl_alloc (bl_trans HB1 hb) (.cells #[.b q0, .i q1, .b q2, .u q3, .i q4, .i q5, .b q6, .u q7, .i q8] 34); clear hb BX HB1 HN R3 R4)))
  go_ret
  exact ⟨by first | rfl | simp, HB2⟩
 ·go_enter Tryz.func13, Tryz.ntmps13
  go_wp2_with (first
   | (refine wpList_ldG (by rfl) 34 (.tmp 7) rfl w.heap.size 0 rfl [.b a0, .i a1, .b a2, .u a3, .i a4, .i a5, .b a6, .u a7, .i a8] _ R1 Tryz.underlying34 rfl (by kernel_rfl) ?_)
   | (refine wpList_ldG (by rfl) 34 (.tmp 9) rfl (w.heap.size + 1) 0 rfl [.b c0, .i c1, .b c2, .u c3, .i c4, .i c5, .b c6, .u c7, .i c8] _ R2 Tryz.underlying34 rfl (by kernel_rfl) ?_)
   | (refine wpList_ldG (by rfl) 34 (.tmp 12) rfl w.heap.size 9 rfl [.b b0, .i b1, .b b2, .u b3, .i b4, .i b5, .b b6, .u b7, .i b8] _ R3 Tryz.underlying34 rfl (by kernel_rfl) ?_)
   | (refine wpList_ldG (by rfl) 34 (.tmp 14) rfl (w.heap.size + 1) 9 rfl [.b d0, .i d1, .b d2, .u d3, .i d4, .i d5, .b d6, .u d7, .i d8] _ R4 Tryz.underlying34 rfl (by kernel_rfl) ?_)
   | (go_at_call 25; first
    | ((with_reducible refine (HM.out _).mono ?_); rintro e w1 ⟨rfl, hb⟩; have C1 := ((BC.call hb).alloc (.cells #[.b true, .i r1, .b r2, .u r3, .i r4, .i r5, .b r6, .u r7, .i r8] 34)); have A1 := ((BA.call hb).alloc (.cells #[.b true, .i r1, .b r2, .u r3, .i r4, .i r5, .b r6, .u r7, .i r8] 34)); have R3 := A1.range 9 [.b b0, .i b1, .b b2, .u b3, .i b4, .i b5, .b b6, .u b7, .i b8] rfl; have R4 := C1.range 9 [.b d0, .i d1, .b d2, .u d3, .i d4, .i d5, .b d6, .u d7, .i d8] rfl; have BX := Blk.new w1 34 #[.b true, .i r1, .b r2, .u r3, .i r4, .i r5, .b r6, .u r7, .i r8]; have HB1 := bl_alloc (bl_trans HBd hb) (.cells #[.b true, .i r1, .b r2, .u r3, .i r4, .i r5, .b r6, .u r7, .i r8] 34); clear hb A1 C1 HM R1 R2 BA BC HBd)
    | ((with_reducible refine (HN.out _).mono ?_); rintro e w2 ⟨rfl, hb⟩; have k0 := ((BX.call hb).alloc (.cells #[.b q0, .i q1, .b q2, .u q3, .i q4, .i q5, .b q6, .u q7, .i q8] 34)).cell 0; have HB2 := bl_alloc (bl_trans HB1 hb) (.cells #[.b q0, .i q1, .b q2, .u q3, .i q4, .i q5, .b q6, .u q7, .i q8] 34); clear hb BX HB1 HN R3 R4)))
  go_ret
  exact ⟨by first | rfl | simp, HB2⟩
end Go.Proofs.YteabdeohhmbclaaGreat.Wk
