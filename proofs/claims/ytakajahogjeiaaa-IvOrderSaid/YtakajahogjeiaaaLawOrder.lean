/- Walk: peloruslaw08.IvOrder returns true, for every input. -/
import Derived.Test.YtakajahogjeiaaaAw08
import Derived.Test.YtakajahogjeiaaaIvPl3
namespace Go.Proofs.Ytakajahogjeiaaa.Wk
open Go.RowKit Go.Proofs.Pl Go.Proofs.YtakajahogjeiaaaW.PrintLast
set_option linter.unusedSimpArgs false
set_option linter.unusedVariables false

set_option maxRecDepth 100000 in
set_option maxHeartbeats 8000000 in
theorem ivOrder_calls (a0 : Bool) (a1 : Int) (a2 : Bool) (a3 a4 a5 : Int) (a6 : Bool) (a7 a8 : Int) (b0 : Bool) (b1 : Int) (b2 : Bool) (b3 b4 b5 : Int) (b6 : Bool) (b7 b8 : Int) (w : World) (wa : WfIv ⟨a0, ⟨a1, a2, a3, a4⟩, ⟨a5, a6, a7, a8⟩⟩) (wb : WfIv ⟨b0, ⟨b1, b2, b3, b4⟩, ⟨b5, b6, b7, b8⟩⟩) :
    Calls Try.prog 12 #[.agg #[.bool a0, .int .i64 a1, .bool a2, .int .u64 a3, .int .i64 a4, .int .i64 a5, .bool a6, .int .u64 a7, .int .i64 a8], .agg #[.bool b0, .int .i64 b1, .bool b2, .int .u64 b3, .int .i64 b4, .int .i64 b5, .bool b6, .int .u64 b7, .int .i64 b8]] w fun e w' => e = .returned (.bool true) ∧ Below w.heap.size w w' := by
  have HL := Lib.hid (fun p q => law_order ⟨a0, ⟨a1, a2, a3, a4⟩, ⟨a5, a6, a7, a8⟩⟩ ⟨b0, ⟨b1, b2, b3, b4⟩, ⟨b5, b6, b7, b8⟩⟩ p q wa wb)
  have HXA := Lib.hid (fun W => mayI_calls a0 a1 a2 a3 a4 a5 a6 a7 a8 W)
  have HXB := Lib.hid (fun W => mayI_calls b0 b1 b2 b3 b4 b5 b6 b7 b8 W)
  have HM := Lib.hid (fun A W (h : SlI W W.heap.size A 2 [⟨a0, ⟨a1, a2, a3, a4⟩, ⟨a5, a6, a7, a8⟩⟩, ⟨b0, ⟨b1, b2, b3, b4⟩, ⟨b5, b6, b7, b8⟩⟩]) => meetI_calls A 2 2 _ W h (by omega))
  have HN := Lib.hid (fun A W (h : SlI W W.heap.size A 2 [⟨b0, ⟨b1, b2, b3, b4⟩, ⟨b5, b6, b7, b8⟩⟩, ⟨a0, ⟨a1, a2, a3, a4⟩, ⟨a5, a6, a7, a8⟩⟩]) => meetI_calls A 2 2 _ W h (by omega))
  have HH := Lib.hid (fun A W (h : SlI W W.heap.size A 2 [⟨a0, ⟨a1, a2, a3, a4⟩, ⟨a5, a6, a7, a8⟩⟩, ⟨b0, ⟨b1, b2, b3, b4⟩, ⟨b5, b6, b7, b8⟩⟩]) => hullI_calls A 2 2 _ W h (by omega))
  have HW0 := Lib.hid (fun W => withinI_calls a0 a1 a2 a3 a4 a5 a6 a7 a8 b0 b1 b2 b3 b4 b5 b6 b7 b8 W)
  generalize mayI ⟨a0, ⟨a1, a2, a3, a4⟩, ⟨a5, a6, a7, a8⟩⟩ = x at HXA HL
  generalize mayI ⟨b0, ⟨b1, b2, b3, b4⟩, ⟨b5, b6, b7, b8⟩⟩ = y at HXB HL
  generalize meetI [⟨a0, ⟨a1, a2, a3, a4⟩, ⟨a5, a6, a7, a8⟩⟩, ⟨b0, ⟨b1, b2, b3, b4⟩, ⟨b5, b6, b7, b8⟩⟩] = m at HM HL
  generalize meetI [⟨b0, ⟨b1, b2, b3, b4⟩, ⟨b5, b6, b7, b8⟩⟩, ⟨a0, ⟨a1, a2, a3, a4⟩, ⟨a5, a6, a7, a8⟩⟩] = m' at HN HL
  generalize hullI [⟨a0, ⟨a1, a2, a3, a4⟩, ⟨a5, a6, a7, a8⟩⟩, ⟨b0, ⟨b1, b2, b3, b4⟩, ⟨b5, b6, b7, b8⟩⟩] = h at HH HL
  obtain ⟨m0, ⟨m1, m2, m3, m4⟩, ⟨m5, m6, m7, m8⟩⟩ := m
  obtain ⟨h0, ⟨h1, h2, h3, h4⟩, ⟨h5, h6, h7, h8⟩⟩ := h
  dsimp only at HM HH
  go_enter Try.func12, Try.ntmps12
  go_wp2_with fail
  have BA := ((Blk.new w 44 #[.bool a0, .int .i64 a1, .bool a2, .int .u64 a3, .int .i64 a4, .int .i64 a5, .bool a6, .int .u64 a7, .int .i64 a8]).alloc (.cells #[.bool b0, .int .i64 b1, .bool b2, .int .u64 b3, .int .i64 b4, .int .i64 b5, .bool b6, .int .u64 b7, .int .i64 b8] 44))
  have BB := (Blk.new1 w (.cells #[.bool a0, .int .i64 a1, .bool a2, .int .u64 a3, .int .i64 a4, .int .i64 a5, .bool a6, .int .u64 a7, .int .i64 a8] 44) 44 #[.bool b0, .int .i64 b1, .bool b2, .int .u64 b3, .int .i64 b4, .int .i64 b5, .bool b6, .int .u64 b7, .int .i64 b8])
  have HB := bl_alloc (bl_alloc (Below.refl w.heap.size w) (.cells #[.bool a0, .int .i64 a1, .bool a2, .int .u64 a3, .int .i64 a4, .int .i64 a5, .bool a6, .int .u64 a7, .int .i64 a8] 44)) (.cells #[.bool b0, .int .i64 b1, .bool b2, .int .u64 b3, .int .i64 b4, .int .i64 b5, .bool b6, .int .u64 b7, .int .i64 b8] 44)
  refine (awake08_calls _).mono ?_
  rintro e w1 ⟨rfl, hb⟩
  have BA := BA.call hb
  have BB := BB.call hb
  have HB := bl_trans HB hb
  clear hb
  obtain ⟨⟨p0, p1, p2, p3, p4, p5, p6, p7, p8⟩, _⟩ := BA.c9
  obtain ⟨⟨r0, r1, r2, r3, r4, r5, r6, r7, r8⟩, _⟩ := BB.c9
  go_wp2_with fail
  refine (HXA.out _).mono ?_
  rintro e w2 ⟨rfl, hb⟩
  clear p0 p1 p2 p3 p4 p5 p6 p7 p8 r0 r1 r2 r3 r4 r5 r6 r7 r8
  have BA := BA.call hb
  have BB := BB.call hb
  have HB := bl_trans HB hb
  clear hb
  obtain ⟨⟨p0, p1, p2, p3, p4, p5, p6, p7, p8⟩, _⟩ := BA.c9
  obtain ⟨⟨r0, r1, r2, r3, r4, r5, r6, r7, r8⟩, _⟩ := BB.c9
  cases x
  · clear HL HXB HM HN HH HW0
    go_wp2
    go_ret
    exact ⟨rfl, HB⟩
  · go_wp2_with fail
    refine (HXB.out _).mono ?_
    rintro e w3 ⟨rfl, hb⟩
    clear p0 p1 p2 p3 p4 p5 p6 p7 p8 r0 r1 r2 r3 r4 r5 r6 r7 r8
    have BA := BA.call hb
    have BB := BB.call hb
    have HB := bl_trans HB hb
    clear hb
    obtain ⟨⟨p0, p1, p2, p3, p4, p5, p6, p7, p8⟩, _⟩ := BA.c9
    obtain ⟨⟨r0, r1, r2, r3, r4, r5, r6, r7, r8⟩, _⟩ := BB.c9
    cases y
    · clear HL HM HN HH HW0
      go_wp2
      go_ret
      exact ⟨rfl, HB⟩
    · obtain ⟨q1, q2, q3, q4, q5, q6, rfl⟩ := HL.out (by simp) (by simp)
      clear HL HXA HXB
      have HW1 := Lib.hid (fun W => withinI_calls m0 m1 m2 m3 m4 m5 m6 m7 m8 a0 a1 a2 a3 a4 a5 a6 a7 a8 W)
      have HW2 := Lib.hid (fun W => withinI_calls m0 m1 m2 m3 m4 m5 m6 m7 m8 b0 b1 b2 b3 b4 b5 b6 b7 b8 W)
      have HW3 := Lib.hid (fun W => withinI_calls a0 a1 a2 a3 a4 a5 a6 a7 a8 h0 h1 h2 h3 h4 h5 h6 h7 h8 W)
      have HW4 := Lib.hid (fun W => withinI_calls b0 b1 b2 b3 b4 b5 b6 b7 b8 h0 h1 h2 h3 h4 h5 h6 h7 h8 W)
      rw [q1] at HW1
      rw [q2] at HW2
      rw [q3] at HW3
      rw [q4] at HW4
      clear q1 q2 q3 q4
      generalize withinI ⟨a0, ⟨a1, a2, a3, a4⟩, ⟨a5, a6, a7, a8⟩⟩ ⟨b0, ⟨b1, b2, b3, b4⟩, ⟨b5, b6, b7, b8⟩⟩ = d at HW0 q5 q6
      dsimp only at HN
      go_wp2_with fail
      refine (HM.out _ _ (SlI.lit2 (x := ⟨a0, ⟨a1, a2, a3, a4⟩, ⟨a5, a6, a7, a8⟩⟩) (y := ⟨b0, ⟨b1, b2, b3, b4⟩, ⟨b5, b6, b7, b8⟩⟩) (Blk.new w3 44 #[.bool a0, .int .i64 a1, .bool a2, .int .u64 a3, .int .i64 a4, .int .i64 a5, .bool a6, .int .u64 a7, .int .i64 a8, .bool b0, .int .i64 b1, .bool b2, .int .u64 b3, .int .i64 b4, .int .i64 b5, .bool b6, .int .u64 b7, .int .i64 b8]) (by simp))).mono ?_
      rintro e w4 ⟨rfl, hb⟩
      clear p0 p1 p2 p3 p4 p5 p6 p7 p8 r0 r1 r2 r3 r4 r5 r6 r7 r8
      have BA := (BA.alloc (.cells #[.bool a0, .int .i64 a1, .bool a2, .int .u64 a3, .int .i64 a4, .int .i64 a5, .bool a6, .int .u64 a7, .int .i64 a8, .bool b0, .int .i64 b1, .bool b2, .int .u64 b3, .int .i64 b4, .int .i64 b5, .bool b6, .int .u64 b7, .int .i64 b8] 44)).call hb
      have BB := (BB.alloc (.cells #[.bool a0, .int .i64 a1, .bool a2, .int .u64 a3, .int .i64 a4, .int .i64 a5, .bool a6, .int .u64 a7, .int .i64 a8, .bool b0, .int .i64 b1, .bool b2, .int .u64 b3, .int .i64 b4, .int .i64 b5, .bool b6, .int .u64 b7, .int .i64 b8] 44)).call hb
      have HB := bl_trans (bl_alloc HB (.cells #[.bool a0, .int .i64 a1, .bool a2, .int .u64 a3, .int .i64 a4, .int .i64 a5, .bool a6, .int .u64 a7, .int .i64 a8, .bool b0, .int .i64 b1, .bool b2, .int .u64 b3, .int .i64 b4, .int .i64 b5, .bool b6, .int .u64 b7, .int .i64 b8] 44)) hb
      clear hb
      obtain ⟨⟨p0, p1, p2, p3, p4, p5, p6, p7, p8⟩, _⟩ := (BA.alloc (.cells #[.bool m0, .int .i64 m1, .bool m2, .int .u64 m3, .int .i64 m4, .int .i64 m5, .bool m6, .int .u64 m7, .int .i64 m8] 44)).c9
      obtain ⟨⟨r0, r1, r2, r3, r4, r5, r6, r7, r8⟩, _⟩ := (BB.alloc (.cells #[.bool m0, .int .i64 m1, .bool m2, .int .u64 m3, .int .i64 m4, .int .i64 m5, .bool m6, .int .u64 m7, .int .i64 m8] 44)).c9
      have BM := Blk.new w4 44 #[.bool m0, .int .i64 m1, .bool m2, .int .u64 m3, .int .i64 m4, .int .i64 m5, .bool m6, .int .u64 m7, .int .i64 m8]
      have BA := BA.alloc (.cells #[.bool m0, .int .i64 m1, .bool m2, .int .u64 m3, .int .i64 m4, .int .i64 m5, .bool m6, .int .u64 m7, .int .i64 m8] 44)
      have BB := BB.alloc (.cells #[.bool m0, .int .i64 m1, .bool m2, .int .u64 m3, .int .i64 m4, .int .i64 m5, .bool m6, .int .u64 m7, .int .i64 m8] 44)
      have HB := bl_alloc HB (.cells #[.bool m0, .int .i64 m1, .bool m2, .int .u64 m3, .int .i64 m4, .int .i64 m5, .bool m6, .int .u64 m7, .int .i64 m8] 44)
      go_wp2_with fail
      refine (HH.out _ _ (SlI.lit2 (x := ⟨a0, ⟨a1, a2, a3, a4⟩, ⟨a5, a6, a7, a8⟩⟩) (y := ⟨b0, ⟨b1, b2, b3, b4⟩, ⟨b5, b6, b7, b8⟩⟩) (Blk.new1 w4 (.cells #[.bool m0, .int .i64 m1, .bool m2, .int .u64 m3, .int .i64 m4, .int .i64 m5, .bool m6, .int .u64 m7, .int .i64 m8] 44) 44 #[.bool a0, .int .i64 a1, .bool a2, .int .u64 a3, .int .i64 a4, .int .i64 a5, .bool a6, .int .u64 a7, .int .i64 a8, .bool b0, .int .i64 b1, .bool b2, .int .u64 b3, .int .i64 b4, .int .i64 b5, .bool b6, .int .u64 b7, .int .i64 b8]) (by simp))).mono ?_
      rintro e w5 ⟨rfl, hb⟩
      clear p0 p1 p2 p3 p4 p5 p6 p7 p8 r0 r1 r2 r3 r4 r5 r6 r7 r8
      have BA := (BA.alloc (.cells #[.bool a0, .int .i64 a1, .bool a2, .int .u64 a3, .int .i64 a4, .int .i64 a5, .bool a6, .int .u64 a7, .int .i64 a8, .bool b0, .int .i64 b1, .bool b2, .int .u64 b3, .int .i64 b4, .int .i64 b5, .bool b6, .int .u64 b7, .int .i64 b8] 44)).call hb
      have BB := (BB.alloc (.cells #[.bool a0, .int .i64 a1, .bool a2, .int .u64 a3, .int .i64 a4, .int .i64 a5, .bool a6, .int .u64 a7, .int .i64 a8, .bool b0, .int .i64 b1, .bool b2, .int .u64 b3, .int .i64 b4, .int .i64 b5, .bool b6, .int .u64 b7, .int .i64 b8] 44)).call hb
      have BM := (BM.alloc (.cells #[.bool a0, .int .i64 a1, .bool a2, .int .u64 a3, .int .i64 a4, .int .i64 a5, .bool a6, .int .u64 a7, .int .i64 a8, .bool b0, .int .i64 b1, .bool b2, .int .u64 b3, .int .i64 b4, .int .i64 b5, .bool b6, .int .u64 b7, .int .i64 b8] 44)).call hb
      have HB := bl_trans (bl_alloc HB (.cells #[.bool a0, .int .i64 a1, .bool a2, .int .u64 a3, .int .i64 a4, .int .i64 a5, .bool a6, .int .u64 a7, .int .i64 a8, .bool b0, .int .i64 b1, .bool b2, .int .u64 b3, .int .i64 b4, .int .i64 b5, .bool b6, .int .u64 b7, .int .i64 b8] 44)) hb
      clear hb
      have BH := Blk.new w5 44 #[.bool h0, .int .i64 h1, .bool h2, .int .u64 h3, .int .i64 h4, .int .i64 h5, .bool h6, .int .u64 h7, .int .i64 h8]
      have BA := BA.alloc (.cells #[.bool h0, .int .i64 h1, .bool h2, .int .u64 h3, .int .i64 h4, .int .i64 h5, .bool h6, .int .u64 h7, .int .i64 h8] 44)
      have BB := BB.alloc (.cells #[.bool h0, .int .i64 h1, .bool h2, .int .u64 h3, .int .i64 h4, .int .i64 h5, .bool h6, .int .u64 h7, .int .i64 h8] 44)
      have BM := BM.alloc (.cells #[.bool h0, .int .i64 h1, .bool h2, .int .u64 h3, .int .i64 h4, .int .i64 h5, .bool h6, .int .u64 h7, .int .i64 h8] 44)
      have HB := bl_alloc HB (.cells #[.bool h0, .int .i64 h1, .bool h2, .int .u64 h3, .int .i64 h4, .int .i64 h5, .bool h6, .int .u64 h7, .int .i64 h8] 44)
      obtain ⟨⟨p0, p1, p2, p3, p4, p5, p6, p7, p8⟩, _⟩ := BA.c9
      obtain ⟨⟨r0, r1, r2, r3, r4, r5, r6, r7, r8⟩, _⟩ := BB.c9
      go_wp2_with fail
      refine (HW0.out _).mono ?_
      rintro e w6 ⟨rfl, hb⟩
      clear p0 p1 p2 p3 p4 p5 p6 p7 p8 r0 r1 r2 r3 r4 r5 r6 r7 r8
      have BA := BA.call hb
      have BB := BB.call hb
      have BM := BM.call hb
      have BH := BH.call hb
      have HB := bl_trans HB hb
      clear hb
      go_wp2_with fail
      replace BA := BA.drew
      replace BB := BB.drew
      replace BM := BM.drew
      replace BH := BH.drew
      replace HB := bl_drew HB
      have e1 := fun W => run_eqIv W m0 a0 m1 a1 m2 a2 m3 a3 m4 a4 m5 a5 m6 a6 m7 a7 m8 a8
      have e2 := fun W => run_eqIv W h0 b0 h1 b1 h2 b2 h3 b3 h4 b4 h5 b5 h6 b6 h7 b7 h8 b8
      have e3 := fun W => run_eqIv W m0 m0 m1 m1 m2 m2 m3 m3 m4 m4 m5 m5 m6 m6 m7 m7 m8 m8
      rw [decide_eq_true rfl] at e3
      rw [← q5] at e1
      rw [← q6] at e2
      refine start_ (n := 44) (S := fun w' => w'.cell? ⟨w.heap.size, 0, none⟩ = some (.bool a0) ∧ w'.cell? ⟨w.heap.size, 1, none⟩ = some (.int .i64 a1) ∧ w'.cell? ⟨w.heap.size, 2, none⟩ = some (.bool a2) ∧ w'.cell? ⟨w.heap.size, 3, none⟩ = some (.int .u64 a3) ∧ w'.cell? ⟨w.heap.size, 4, none⟩ = some (.int .i64 a4) ∧ w'.cell? ⟨w.heap.size, 5, none⟩ = some (.int .i64 a5) ∧ w'.cell? ⟨w.heap.size, 6, none⟩ = some (.bool a6) ∧ w'.cell? ⟨w.heap.size, 7, none⟩ = some (.int .u64 a7) ∧ w'.cell? ⟨w.heap.size, 8, none⟩ = some (.int .i64 a8) ∧ w'.cell? ⟨(w.heap.size + 1), 0, none⟩ = some (.bool b0) ∧ w'.cell? ⟨(w.heap.size + 1), 1, none⟩ = some (.int .i64 b1) ∧ w'.cell? ⟨(w.heap.size + 1), 2, none⟩ = some (.bool b2) ∧ w'.cell? ⟨(w.heap.size + 1), 3, none⟩ = some (.int .u64 b3) ∧ w'.cell? ⟨(w.heap.size + 1), 4, none⟩ = some (.int .i64 b4) ∧ w'.cell? ⟨(w.heap.size + 1), 5, none⟩ = some (.int .i64 b5) ∧ w'.cell? ⟨(w.heap.size + 1), 6, none⟩ = some (.bool b6) ∧ w'.cell? ⟨(w.heap.size + 1), 7, none⟩ = some (.int .u64 b7) ∧ w'.cell? ⟨(w.heap.size + 1), 8, none⟩ = some (.int .i64 b8) ∧ w'.cell? ⟨w4.heap.size, 0, none⟩ = some (.bool m0) ∧ w'.cell? ⟨w4.heap.size, 1, none⟩ = some (.int .i64 m1) ∧ w'.cell? ⟨w4.heap.size, 2, none⟩ = some (.bool m2) ∧ w'.cell? ⟨w4.heap.size, 3, none⟩ = some (.int .u64 m3) ∧ w'.cell? ⟨w4.heap.size, 4, none⟩ = some (.int .i64 m4) ∧ w'.cell? ⟨w4.heap.size, 5, none⟩ = some (.int .i64 m5) ∧ w'.cell? ⟨w4.heap.size, 6, none⟩ = some (.bool m6) ∧ w'.cell? ⟨w4.heap.size, 7, none⟩ = some (.int .u64 m7) ∧ w'.cell? ⟨w4.heap.size, 8, none⟩ = some (.int .i64 m8) ∧ w'.cell? ⟨w5.heap.size, 0, none⟩ = some (.bool h0) ∧ w'.cell? ⟨w5.heap.size, 1, none⟩ = some (.int .i64 h1) ∧ w'.cell? ⟨w5.heap.size, 2, none⟩ = some (.bool h2) ∧ w'.cell? ⟨w5.heap.size, 3, none⟩ = some (.int .u64 h3) ∧ w'.cell? ⟨w5.heap.size, 4, none⟩ = some (.int .i64 h4) ∧ w'.cell? ⟨w5.heap.size, 5, none⟩ = some (.int .i64 h5) ∧ w'.cell? ⟨w5.heap.size, 6, none⟩ = some (.bool h6) ∧ w'.cell? ⟨w5.heap.size, 7, none⟩ = some (.int .u64 h7) ∧ w'.cell? ⟨w5.heap.size, 8, none⟩ = some (.int .i64 h8)) (ds := []) #[false, false, false, false, false, false, false, false, false, false, false, false, false, false, false, false, false, false, false, false, false, false, false, false, false, false, false, false, false, false, false, false, false, false, false, false, false, false, false, false, false, false, false, false] (by kernel_rfl) rfl rfl ⟨BA.cell 0, BA.cell 1, BA.cell 2, BA.cell 3, BA.cell 4, BA.cell 5, BA.cell 6, BA.cell 7, BA.cell 8, BB.cell 0, BB.cell 1, BB.cell 2, BB.cell 3, BB.cell 4, BB.cell 5, BB.cell 6, BB.cell 7, BB.cell 8, BM.cell 0, BM.cell 1, BM.cell 2, BM.cell 3, BM.cell 4, BM.cell 5, BM.cell 6, BM.cell 7, BM.cell 8, BH.cell 0, BH.cell 1, BH.cell 2, BH.cell 3, BH.cell 4, BH.cell 5, BH.cell 6, BH.cell 7, BH.cell 8⟩ (fun hHeld => ?_)
      generalize w6.drew = w7 at BA BB BM BH HB hHeld ⊢
      refine pure_ (i := 0) (N := some 30) (v := ?_) (a' := ?_) #[true, false, false, false, false, false, false, false, false, false, false, false, false, false, false, false, false, false, false, false, false, false, false, false, false, false, false, false, false, false, false, false, false, false, false, false, false, false, false, false, false, false, false, false] rfl rfl (by kernel_rfl) (fun _ _ _ h => h) (Or.inl ⟨by rfl, ?_⟩) ?_ ?_
      rotate_left
      · intro w'
        go_simp
        with_reducible rfl
      rotate_left
      · simp only [Act.put, List.setIfInBounds_toArray, List.set_cons_zero, List.set_cons_succ]
        rfl
      refine pure_ (i := 1) (N := some 31) (v := ?_) (a' := ?_) #[true, true, false, false, false, false, false, false, false, false, false, false, false, false, false, false, false, false, false, false, false, false, false, false, false, false, false, false, false, false, false, false, false, false, false, false, false, false, false, false, false, false, false, false] rfl rfl (by kernel_rfl) (fun _ _ _ h => h) (Or.inl ⟨by rfl, ?_⟩) ?_ ?_
      rotate_left
      · intro w'
        go_simp
        with_reducible rfl
      rotate_left
      · simp only [Act.put, List.setIfInBounds_toArray, List.set_cons_zero, List.set_cons_succ]
        rfl
      refine take_ (i := 2) (N := some 32) (v := ?_) (a' := ?_) #[true, true, true, false, false, false, false, false, false, false, false, false, false, false, false, false, false, false, false, false, false, false, false, false, false, false, false, false, false, false, false, false, false, false, false, false, false, false, false, false, false, false, false, false] rfl rfl (by kernel_rfl) (fun _ _ _ h => h) (Or.inl ⟨by rfl, ?_⟩) hHeld ?_ ?_
      rotate_left
      · rintro w' ⟨s0_, s1_, s2_, s3_, s4_, s5_, s6_, s7_, s8_, s9_, s10_, s11_, s12_, s13_, s14_, s15_, s16_, s17_, s18_, s19_, s20_, s21_, s22_, s23_, s24_, s25_, s26_, s27_, s28_, s29_, s30_, s31_, s32_, s33_, s34_, s35_⟩
        go_simp
        with_reducible rfl
      rotate_left
      · simp only [Act.put, List.setIfInBounds_toArray, List.set_cons_zero, List.set_cons_succ]
        rfl
      refine take_ (i := 3) (N := some 33) (v := ?_) (a' := ?_) #[true, true, true, true, false, false, false, false, false, false, false, false, false, false, false, false, false, false, false, false, false, false, false, false, false, false, false, false, false, false, false, false, false, false, false, false, false, false, false, false, false, false, false, false] rfl rfl (by kernel_rfl) (fun _ _ _ h => h) (Or.inl ⟨by rfl, ?_⟩) hHeld ?_ ?_
      rotate_left
      · rintro w' ⟨s0_, s1_, s2_, s3_, s4_, s5_, s6_, s7_, s8_, s9_, s10_, s11_, s12_, s13_, s14_, s15_, s16_, s17_, s18_, s19_, s20_, s21_, s22_, s23_, s24_, s25_, s26_, s27_, s28_, s29_, s30_, s31_, s32_, s33_, s34_, s35_⟩
        go_simp
        with_reducible rfl
      rotate_left
      · simp only [Act.put, List.setIfInBounds_toArray, List.set_cons_zero, List.set_cons_succ]
        rfl
      refine one_ (i := 4) (N := some 34) #[true, true, true, true, true, false, false, false, false, false, false, false, false, false, false, false, false, false, false, false, false, false, false, false, false, false, false, false, false, false, false, false, false, false, false, false, false, false, false, false, false, false, false, false] rfl rfl (by kernel_rfl) (by decide) (fun K hK => ?_)
      refine goes_ Try.func35 (by kernel_rfl) rfl #[.agg #[.bool m0, .int .i64 m1, .bool m2, .int .u64 m3, .int .i64 m4, .int .i64 m5, .bool m6, .int .u64 m7, .int .i64 m8], .agg #[.bool a0, .int .i64 a1, .bool a2, .int .u64 a3, .int .i64 a4, .int .i64 a5, .bool a6, .int .u64 a7, .int .i64 a8]] (by rfl) rfl rfl (by simp only [List.map_toArray, List.map_cons, List.map_nil] <;> rfl) ?_
      with_reducible refine (HW1.out _).mono ?_
      rintro e w8 ⟨rfl, hb⟩
      refine ⟨_, rfl, ?_⟩
      have BA := BA.call hb
      have BB := BB.call hb
      have BM := BM.call hb
      have BH := BH.call hb
      have HB := bl_trans HB hb
      refine hK.out _ _ ⟨BA.cell 0, BA.cell 1, BA.cell 2, BA.cell 3, BA.cell 4, BA.cell 5, BA.cell 6, BA.cell 7, BA.cell 8, BB.cell 0, BB.cell 1, BB.cell 2, BB.cell 3, BB.cell 4, BB.cell 5, BB.cell 6, BB.cell 7, BB.cell 8, BM.cell 0, BM.cell 1, BM.cell 2, BM.cell 3, BM.cell 4, BM.cell 5, BM.cell 6, BM.cell 7, BM.cell 8, BH.cell 0, BH.cell 1, BH.cell 2, BH.cell 3, BH.cell 4, BH.cell 5, BH.cell 6, BH.cell 7, BH.cell 8⟩ (fun hHeld => ?_)
      clear hK K hb
      refine norm_ (a' := ?_) ?_ ?_
      rotate_left
      · show Act.put _ (some 34) _ = _
        simp only [Act.put, List.setIfInBounds_toArray, List.set_cons_zero, List.set_cons_succ]
        rfl
      refine pure_ (i := 5) (N := some 35) (v := ?_) (a' := ?_) #[true, true, true, true, true, true, false, false, false, false, false, false, false, false, false, false, false, false, false, false, false, false, false, false, false, false, false, false, false, false, false, false, false, false, false, false, false, false, false, false, false, false, false, false] rfl rfl (by kernel_rfl) (fun _ _ _ h => h) (Or.inl ⟨by rfl, ?_⟩) ?_ ?_
      rotate_left
      · intro w'
        go_simp
        with_reducible rfl
      rotate_left
      · simp only [Act.put, List.setIfInBounds_toArray, List.set_cons_zero, List.set_cons_succ]
        rfl
      refine pure_ (i := 6) (N := some 36) (v := ?_) (a' := ?_) #[true, true, true, true, true, true, true, false, false, false, false, false, false, false, false, false, false, false, false, false, false, false, false, false, false, false, false, false, false, false, false, false, false, false, false, false, false, false, false, false, false, false, false, false] rfl rfl (by kernel_rfl) (fun _ _ _ h => h) (Or.inl ⟨by rfl, ?_⟩) ?_ ?_
      rotate_left
      · intro w'
        go_simp
        with_reducible rfl
      rotate_left
      · simp only [Act.put, List.setIfInBounds_toArray, List.set_cons_zero, List.set_cons_succ]
        rfl
      refine take_ (i := 7) (N := some 37) (v := ?_) (a' := ?_) #[true, true, true, true, true, true, true, true, false, false, false, false, false, false, false, false, false, false, false, false, false, false, false, false, false, false, false, false, false, false, false, false, false, false, false, false, false, false, false, false, false, false, false, false] rfl rfl (by kernel_rfl) (fun _ _ _ h => h) (Or.inl ⟨by rfl, ?_⟩) hHeld ?_ ?_
      rotate_left
      · rintro w' ⟨s0_, s1_, s2_, s3_, s4_, s5_, s6_, s7_, s8_, s9_, s10_, s11_, s12_, s13_, s14_, s15_, s16_, s17_, s18_, s19_, s20_, s21_, s22_, s23_, s24_, s25_, s26_, s27_, s28_, s29_, s30_, s31_, s32_, s33_, s34_, s35_⟩
        go_simp
        with_reducible rfl
      rotate_left
      · simp only [Act.put, List.setIfInBounds_toArray, List.set_cons_zero, List.set_cons_succ]
        rfl
      refine take_ (i := 8) (N := some 38) (v := ?_) (a' := ?_) #[true, true, true, true, true, true, true, true, true, false, false, false, false, false, false, false, false, false, false, false, false, false, false, false, false, false, false, false, false, false, false, false, false, false, false, false, false, false, false, false, false, false, false, false] rfl rfl (by kernel_rfl) (fun _ _ _ h => h) (Or.inl ⟨by rfl, ?_⟩) hHeld ?_ ?_
      rotate_left
      · rintro w' ⟨s0_, s1_, s2_, s3_, s4_, s5_, s6_, s7_, s8_, s9_, s10_, s11_, s12_, s13_, s14_, s15_, s16_, s17_, s18_, s19_, s20_, s21_, s22_, s23_, s24_, s25_, s26_, s27_, s28_, s29_, s30_, s31_, s32_, s33_, s34_, s35_⟩
        go_simp
        with_reducible rfl
      rotate_left
      · simp only [Act.put, List.setIfInBounds_toArray, List.set_cons_zero, List.set_cons_succ]
        rfl
      refine one_ (i := 9) (N := some 39) #[true, true, true, true, true, true, true, true, true, true, false, false, false, false, false, false, false, false, false, false, false, false, false, false, false, false, false, false, false, false, false, false, false, false, false, false, false, false, false, false, false, false, false, false] rfl rfl (by kernel_rfl) (by decide) (fun K hK => ?_)
      refine goes_ Try.func35 (by kernel_rfl) rfl #[.agg #[.bool m0, .int .i64 m1, .bool m2, .int .u64 m3, .int .i64 m4, .int .i64 m5, .bool m6, .int .u64 m7, .int .i64 m8], .agg #[.bool b0, .int .i64 b1, .bool b2, .int .u64 b3, .int .i64 b4, .int .i64 b5, .bool b6, .int .u64 b7, .int .i64 b8]] (by rfl) rfl rfl (by simp only [List.map_toArray, List.map_cons, List.map_nil] <;> rfl) ?_
      with_reducible refine (HW2.out _).mono ?_
      rintro e w9 ⟨rfl, hb⟩
      refine ⟨_, rfl, ?_⟩
      have BA := BA.call hb
      have BB := BB.call hb
      have BM := BM.call hb
      have BH := BH.call hb
      have HB := bl_trans HB hb
      refine hK.out _ _ ⟨BA.cell 0, BA.cell 1, BA.cell 2, BA.cell 3, BA.cell 4, BA.cell 5, BA.cell 6, BA.cell 7, BA.cell 8, BB.cell 0, BB.cell 1, BB.cell 2, BB.cell 3, BB.cell 4, BB.cell 5, BB.cell 6, BB.cell 7, BB.cell 8, BM.cell 0, BM.cell 1, BM.cell 2, BM.cell 3, BM.cell 4, BM.cell 5, BM.cell 6, BM.cell 7, BM.cell 8, BH.cell 0, BH.cell 1, BH.cell 2, BH.cell 3, BH.cell 4, BH.cell 5, BH.cell 6, BH.cell 7, BH.cell 8⟩ (fun hHeld => ?_)
      clear hK K hb
      refine norm_ (a' := ?_) ?_ ?_
      rotate_left
      · show Act.put _ (some 39) _ = _
        simp only [Act.put, List.setIfInBounds_toArray, List.set_cons_zero, List.set_cons_succ]
        rfl
      refine pure_ (i := 10) (N := some 40) (v := ?_) (a' := ?_) #[true, true, true, true, true, true, true, true, true, true, true, false, false, false, false, false, false, false, false, false, false, false, false, false, false, false, false, false, false, false, false, false, false, false, false, false, false, false, false, false, false, false, false, false] rfl rfl (by kernel_rfl) (fun _ _ _ h => h) (Or.inl ⟨by rfl, ?_⟩) ?_ ?_
      rotate_left
      · intro w'
        go_simp
        with_reducible rfl
      rotate_left
      · simp only [Act.put, List.setIfInBounds_toArray, List.set_cons_zero, List.set_cons_succ]
        rfl
      refine pure_ (i := 11) (N := some 41) (v := ?_) (a' := ?_) #[true, true, true, true, true, true, true, true, true, true, true, true, false, false, false, false, false, false, false, false, false, false, false, false, false, false, false, false, false, false, false, false, false, false, false, false, false, false, false, false, false, false, false, false] rfl rfl (by kernel_rfl) (fun _ _ _ h => h) (Or.inl ⟨by rfl, ?_⟩) ?_ ?_
      rotate_left
      · intro w'
        go_simp
        with_reducible rfl
      rotate_left
      · simp only [Act.put, List.setIfInBounds_toArray, List.set_cons_zero, List.set_cons_succ]
        rfl
      refine take_ (i := 12) (N := some 42) (v := ?_) (a' := ?_) #[true, true, true, true, true, true, true, true, true, true, true, true, true, false, false, false, false, false, false, false, false, false, false, false, false, false, false, false, false, false, false, false, false, false, false, false, false, false, false, false, false, false, false, false] rfl rfl (by kernel_rfl) (fun _ _ _ h => h) (Or.inl ⟨by rfl, ?_⟩) hHeld ?_ ?_
      rotate_left
      · rintro w' ⟨s0_, s1_, s2_, s3_, s4_, s5_, s6_, s7_, s8_, s9_, s10_, s11_, s12_, s13_, s14_, s15_, s16_, s17_, s18_, s19_, s20_, s21_, s22_, s23_, s24_, s25_, s26_, s27_, s28_, s29_, s30_, s31_, s32_, s33_, s34_, s35_⟩
        go_simp
        with_reducible rfl
      rotate_left
      · simp only [Act.put, List.setIfInBounds_toArray, List.set_cons_zero, List.set_cons_succ]
        rfl
      refine take_ (i := 13) (N := some 43) (v := ?_) (a' := ?_) #[true, true, true, true, true, true, true, true, true, true, true, true, true, true, false, false, false, false, false, false, false, false, false, false, false, false, false, false, false, false, false, false, false, false, false, false, false, false, false, false, false, false, false, false] rfl rfl (by kernel_rfl) (fun _ _ _ h => h) (Or.inl ⟨by rfl, ?_⟩) hHeld ?_ ?_
      rotate_left
      · rintro w' ⟨s0_, s1_, s2_, s3_, s4_, s5_, s6_, s7_, s8_, s9_, s10_, s11_, s12_, s13_, s14_, s15_, s16_, s17_, s18_, s19_, s20_, s21_, s22_, s23_, s24_, s25_, s26_, s27_, s28_, s29_, s30_, s31_, s32_, s33_, s34_, s35_⟩
        go_simp
        with_reducible rfl
      rotate_left
      · simp only [Act.put, List.setIfInBounds_toArray, List.set_cons_zero, List.set_cons_succ]
        rfl
      refine one_ (i := 14) (N := some 44) #[true, true, true, true, true, true, true, true, true, true, true, true, true, true, true, false, false, false, false, false, false, false, false, false, false, false, false, false, false, false, false, false, false, false, false, false, false, false, false, false, false, false, false, false] rfl rfl (by kernel_rfl) (by decide) (fun K hK => ?_)
      refine goes_ Try.func35 (by kernel_rfl) rfl #[.agg #[.bool a0, .int .i64 a1, .bool a2, .int .u64 a3, .int .i64 a4, .int .i64 a5, .bool a6, .int .u64 a7, .int .i64 a8], .agg #[.bool h0, .int .i64 h1, .bool h2, .int .u64 h3, .int .i64 h4, .int .i64 h5, .bool h6, .int .u64 h7, .int .i64 h8]] (by rfl) rfl rfl (by simp only [List.map_toArray, List.map_cons, List.map_nil] <;> rfl) ?_
      with_reducible refine (HW3.out _).mono ?_
      rintro e w10 ⟨rfl, hb⟩
      refine ⟨_, rfl, ?_⟩
      have BA := BA.call hb
      have BB := BB.call hb
      have BM := BM.call hb
      have BH := BH.call hb
      have HB := bl_trans HB hb
      refine hK.out _ _ ⟨BA.cell 0, BA.cell 1, BA.cell 2, BA.cell 3, BA.cell 4, BA.cell 5, BA.cell 6, BA.cell 7, BA.cell 8, BB.cell 0, BB.cell 1, BB.cell 2, BB.cell 3, BB.cell 4, BB.cell 5, BB.cell 6, BB.cell 7, BB.cell 8, BM.cell 0, BM.cell 1, BM.cell 2, BM.cell 3, BM.cell 4, BM.cell 5, BM.cell 6, BM.cell 7, BM.cell 8, BH.cell 0, BH.cell 1, BH.cell 2, BH.cell 3, BH.cell 4, BH.cell 5, BH.cell 6, BH.cell 7, BH.cell 8⟩ (fun hHeld => ?_)
      clear hK K hb
      refine norm_ (a' := ?_) ?_ ?_
      rotate_left
      · show Act.put _ (some 44) _ = _
        simp only [Act.put, List.setIfInBounds_toArray, List.set_cons_zero, List.set_cons_succ]
        rfl
      refine pure_ (i := 15) (N := some 45) (v := ?_) (a' := ?_) #[true, true, true, true, true, true, true, true, true, true, true, true, true, true, true, true, false, false, false, false, false, false, false, false, false, false, false, false, false, false, false, false, false, false, false, false, false, false, false, false, false, false, false, false] rfl rfl (by kernel_rfl) (fun _ _ _ h => h) (Or.inl ⟨by rfl, ?_⟩) ?_ ?_
      rotate_left
      · intro w'
        go_simp
        with_reducible rfl
      rotate_left
      · simp only [Act.put, List.setIfInBounds_toArray, List.set_cons_zero, List.set_cons_succ]
        rfl
      refine pure_ (i := 16) (N := some 46) (v := ?_) (a' := ?_) #[true, true, true, true, true, true, true, true, true, true, true, true, true, true, true, true, true, false, false, false, false, false, false, false, false, false, false, false, false, false, false, false, false, false, false, false, false, false, false, false, false, false, false, false] rfl rfl (by kernel_rfl) (fun _ _ _ h => h) (Or.inl ⟨by rfl, ?_⟩) ?_ ?_
      rotate_left
      · intro w'
        go_simp
        with_reducible rfl
      rotate_left
      · simp only [Act.put, List.setIfInBounds_toArray, List.set_cons_zero, List.set_cons_succ]
        rfl
      refine take_ (i := 17) (N := some 47) (v := ?_) (a' := ?_) #[true, true, true, true, true, true, true, true, true, true, true, true, true, true, true, true, true, true, false, false, false, false, false, false, false, false, false, false, false, false, false, false, false, false, false, false, false, false, false, false, false, false, false, false] rfl rfl (by kernel_rfl) (fun _ _ _ h => h) (Or.inl ⟨by rfl, ?_⟩) hHeld ?_ ?_
      rotate_left
      · rintro w' ⟨s0_, s1_, s2_, s3_, s4_, s5_, s6_, s7_, s8_, s9_, s10_, s11_, s12_, s13_, s14_, s15_, s16_, s17_, s18_, s19_, s20_, s21_, s22_, s23_, s24_, s25_, s26_, s27_, s28_, s29_, s30_, s31_, s32_, s33_, s34_, s35_⟩
        go_simp
        with_reducible rfl
      rotate_left
      · simp only [Act.put, List.setIfInBounds_toArray, List.set_cons_zero, List.set_cons_succ]
        rfl
      refine take_ (i := 18) (N := some 48) (v := ?_) (a' := ?_) #[true, true, true, true, true, true, true, true, true, true, true, true, true, true, true, true, true, true, true, false, false, false, false, false, false, false, false, false, false, false, false, false, false, false, false, false, false, false, false, false, false, false, false, false] rfl rfl (by kernel_rfl) (fun _ _ _ h => h) (Or.inl ⟨by rfl, ?_⟩) hHeld ?_ ?_
      rotate_left
      · rintro w' ⟨s0_, s1_, s2_, s3_, s4_, s5_, s6_, s7_, s8_, s9_, s10_, s11_, s12_, s13_, s14_, s15_, s16_, s17_, s18_, s19_, s20_, s21_, s22_, s23_, s24_, s25_, s26_, s27_, s28_, s29_, s30_, s31_, s32_, s33_, s34_, s35_⟩
        go_simp
        with_reducible rfl
      rotate_left
      · simp only [Act.put, List.setIfInBounds_toArray, List.set_cons_zero, List.set_cons_succ]
        rfl
      refine one_ (i := 19) (N := some 49) #[true, true, true, true, true, true, true, true, true, true, true, true, true, true, true, true, true, true, true, true, false, false, false, false, false, false, false, false, false, false, false, false, false, false, false, false, false, false, false, false, false, false, false, false] rfl rfl (by kernel_rfl) (by decide) (fun K hK => ?_)
      refine goes_ Try.func35 (by kernel_rfl) rfl #[.agg #[.bool b0, .int .i64 b1, .bool b2, .int .u64 b3, .int .i64 b4, .int .i64 b5, .bool b6, .int .u64 b7, .int .i64 b8], .agg #[.bool h0, .int .i64 h1, .bool h2, .int .u64 h3, .int .i64 h4, .int .i64 h5, .bool h6, .int .u64 h7, .int .i64 h8]] (by rfl) rfl rfl (by simp only [List.map_toArray, List.map_cons, List.map_nil] <;> rfl) ?_
      with_reducible refine (HW4.out _).mono ?_
      rintro e w11 ⟨rfl, hb⟩
      refine ⟨_, rfl, ?_⟩
      have BA := BA.call hb
      have BB := BB.call hb
      have BM := BM.call hb
      have BH := BH.call hb
      have HB := bl_trans HB hb
      refine hK.out _ _ ⟨BA.cell 0, BA.cell 1, BA.cell 2, BA.cell 3, BA.cell 4, BA.cell 5, BA.cell 6, BA.cell 7, BA.cell 8, BB.cell 0, BB.cell 1, BB.cell 2, BB.cell 3, BB.cell 4, BB.cell 5, BB.cell 6, BB.cell 7, BB.cell 8, BM.cell 0, BM.cell 1, BM.cell 2, BM.cell 3, BM.cell 4, BM.cell 5, BM.cell 6, BM.cell 7, BM.cell 8, BH.cell 0, BH.cell 1, BH.cell 2, BH.cell 3, BH.cell 4, BH.cell 5, BH.cell 6, BH.cell 7, BH.cell 8⟩ (fun hHeld => ?_)
      clear hK K hb
      refine norm_ (a' := ?_) ?_ ?_
      rotate_left
      · show Act.put _ (some 49) _ = _
        simp only [Act.put, List.setIfInBounds_toArray, List.set_cons_zero, List.set_cons_succ]
        rfl
      refine pure_ (i := 20) (N := some 50) (v := ?_) (a' := ?_) #[true, true, true, true, true, true, true, true, true, true, true, true, true, true, true, true, true, true, true, true, true, false, false, false, false, false, false, false, false, false, false, false, false, false, false, false, false, false, false, false, false, false, false, false] rfl rfl (by kernel_rfl) (fun _ _ _ h => h) (Or.inl ⟨by rfl, ?_⟩) ?_ ?_
      rotate_left
      · intro w'
        go_simp
        with_reducible rfl
      rotate_left
      · simp only [Act.put, List.setIfInBounds_toArray, List.set_cons_zero, List.set_cons_succ]
        rfl
      refine pure_ (i := 21) (N := some 51) (v := ?_) (a' := ?_) #[true, true, true, true, true, true, true, true, true, true, true, true, true, true, true, true, true, true, true, true, true, true, false, false, false, false, false, false, false, false, false, false, false, false, false, false, false, false, false, false, false, false, false, false] rfl rfl (by kernel_rfl) (fun _ _ _ h => h) (Or.inl ⟨by rfl, ?_⟩) ?_ ?_
      rotate_left
      · intro w'
        go_simp
        with_reducible rfl
      rotate_left
      · simp only [Act.put, List.setIfInBounds_toArray, List.set_cons_zero, List.set_cons_succ]
        rfl
      refine pure_ (i := 22) (N := some 52) (v := ?_) (a' := ?_) #[true, true, true, true, true, true, true, true, true, true, true, true, true, true, true, true, true, true, true, true, true, true, true, false, false, false, false, false, false, false, false, false, false, false, false, false, false, false, false, false, false, false, false, false] rfl rfl (by kernel_rfl) (fun _ _ _ h => h) (Or.inl ⟨by rfl, ?_⟩) ?_ ?_
      rotate_left
      · intro w'
        go_simp
        with_reducible rfl
      rotate_left
      · simp only [Act.put, List.setIfInBounds_toArray, List.set_cons_zero, List.set_cons_succ]
        rfl
      refine take_ (i := 23) (N := some 53) (v := ?_) (a' := ?_) #[true, true, true, true, true, true, true, true, true, true, true, true, true, true, true, true, true, true, true, true, true, true, true, true, false, false, false, false, false, false, false, false, false, false, false, false, false, false, false, false, false, false, false, false] rfl rfl (by kernel_rfl) (fun _ _ _ h => h) (Or.inl ⟨by rfl, ?_⟩) hHeld ?_ ?_
      rotate_left
      · rintro w' ⟨s0_, s1_, s2_, s3_, s4_, s5_, s6_, s7_, s8_, s9_, s10_, s11_, s12_, s13_, s14_, s15_, s16_, s17_, s18_, s19_, s20_, s21_, s22_, s23_, s24_, s25_, s26_, s27_, s28_, s29_, s30_, s31_, s32_, s33_, s34_, s35_⟩
        go_simp
        with_reducible rfl
      rotate_left
      · simp only [Act.put, List.setIfInBounds_toArray, List.set_cons_zero, List.set_cons_succ]
        rfl
      refine take_ (i := 24) (N := some 54) (v := ?_) (a' := ?_) #[true, true, true, true, true, true, true, true, true, true, true, true, true, true, true, true, true, true, true, true, true, true, true, true, true, false, false, false, false, false, false, false, false, false, false, false, false, false, false, false, false, false, false, false] rfl rfl (by kernel_rfl) (fun _ _ _ h => h) (Or.inl ⟨by rfl, ?_⟩) hHeld ?_ ?_
      rotate_left
      · rintro w' ⟨s0_, s1_, s2_, s3_, s4_, s5_, s6_, s7_, s8_, s9_, s10_, s11_, s12_, s13_, s14_, s15_, s16_, s17_, s18_, s19_, s20_, s21_, s22_, s23_, s24_, s25_, s26_, s27_, s28_, s29_, s30_, s31_, s32_, s33_, s34_, s35_⟩
        go_simp
        with_reducible rfl
      rotate_left
      · simp only [Act.put, List.setIfInBounds_toArray, List.set_cons_zero, List.set_cons_succ]
        rfl
      refine pure_ (i := 25) (N := some 55) (v := ?_) (a' := ?_) #[true, true, true, true, true, true, true, true, true, true, true, true, true, true, true, true, true, true, true, true, true, true, true, true, true, true, false, false, false, false, false, false, false, false, false, false, false, false, false, false, false, false, false, false] rfl rfl (by kernel_rfl) (fun _ _ _ h => h) (Or.inl ⟨by rfl, ?_⟩) ?_ ?_
      rotate_left
      · intro w'
        go_simp
        with_reducible rfl
      rotate_left
      · simp only [Act.put, List.setIfInBounds_toArray, List.set_cons_zero, List.set_cons_succ]
        rfl
      refine pure_ (i := 26) (N := some 56) (v := ?_) (a' := ?_) #[true, true, true, true, true, true, true, true, true, true, true, true, true, true, true, true, true, true, true, true, true, true, true, true, true, true, true, false, false, false, false, false, false, false, false, false, false, false, false, false, false, false, false, false] rfl rfl (by kernel_rfl) (fun _ _ _ h => h) (Or.inl ⟨by rfl, ?_⟩) ?_ ?_
      rotate_left
      · intro w'
        go_simp
        with_reducible rfl
      rotate_left
      · simp only [Act.put, List.setIfInBounds_toArray, List.set_cons_zero, List.set_cons_succ]
        rfl
      refine pure_ (i := 27) (N := some 57) (v := ?_) (a' := ?_) #[true, true, true, true, true, true, true, true, true, true, true, true, true, true, true, true, true, true, true, true, true, true, true, true, true, true, true, true, false, false, false, false, false, false, false, false, false, false, false, false, false, false, false, false] rfl rfl (by kernel_rfl) (fun _ _ _ h => h) (Or.inl ⟨by rfl, ?_⟩) ?_ ?_
      rotate_left
      · intro w'
        go_simp
        with_reducible rfl
      rotate_left
      · simp only [Act.put, List.setIfInBounds_toArray, List.set_cons_zero, List.set_cons_succ]
        rfl
      refine pure_ (i := 28) (N := some 58) (v := ?_) (a' := ?_) #[true, true, true, true, true, true, true, true, true, true, true, true, true, true, true, true, true, true, true, true, true, true, true, true, true, true, true, true, true, false, false, false, false, false, false, false, false, false, false, false, false, false, false, false] rfl rfl (by kernel_rfl) (fun _ _ _ h => h) (Or.inl ⟨by rfl, ?_⟩) ?_ ?_
      rotate_left
      · intro w'
        go_simp
        with_reducible rfl
      rotate_left
      · simp only [Act.put, List.setIfInBounds_toArray, List.set_cons_zero, List.set_cons_succ]
        rfl
      refine pure_ (i := 29) (N := some 59) (v := ?_) (a' := ?_) #[true, true, true, true, true, true, true, true, true, true, true, true, true, true, true, true, true, true, true, true, true, true, true, true, true, true, true, true, true, true, false, false, false, false, false, false, false, false, false, false, false, false, false, false] rfl rfl (by kernel_rfl) (fun _ _ _ h => h) (Or.inl ⟨by rfl, ?_⟩) ?_ ?_
      rotate_left
      · intro w'
        go_simp
        with_reducible rfl
      rotate_left
      · simp only [Act.put, List.setIfInBounds_toArray, List.set_cons_zero, List.set_cons_succ]
        rfl
      refine take_ (i := 30) (N := some 60) (v := ?_) (a' := ?_) #[true, true, true, true, true, true, true, true, true, true, true, true, true, true, true, true, true, true, true, true, true, true, true, true, true, true, true, true, true, true, true, false, false, false, false, false, false, false, false, false, false, false, false, false] rfl rfl (by kernel_rfl) (fun _ _ _ h => h) (Or.inl ⟨by rfl, ?_⟩) hHeld ?_ ?_
      rotate_left
      · rintro w' ⟨s0_, s1_, s2_, s3_, s4_, s5_, s6_, s7_, s8_, s9_, s10_, s11_, s12_, s13_, s14_, s15_, s16_, s17_, s18_, s19_, s20_, s21_, s22_, s23_, s24_, s25_, s26_, s27_, s28_, s29_, s30_, s31_, s32_, s33_, s34_, s35_⟩
        go_simp
        with_reducible rfl
      rotate_left
      · simp only [Act.put, List.setIfInBounds_toArray, List.set_cons_zero, List.set_cons_succ]
        rfl
      refine take_ (i := 31) (N := some 61) (v := ?_) (a' := ?_) #[true, true, true, true, true, true, true, true, true, true, true, true, true, true, true, true, true, true, true, true, true, true, true, true, true, true, true, true, true, true, true, true, false, false, false, false, false, false, false, false, false, false, false, false] rfl rfl (by kernel_rfl) (fun _ _ _ h => h) (Or.inl ⟨by rfl, ?_⟩) hHeld ?_ ?_
      rotate_left
      · rintro w' ⟨s0_, s1_, s2_, s3_, s4_, s5_, s6_, s7_, s8_, s9_, s10_, s11_, s12_, s13_, s14_, s15_, s16_, s17_, s18_, s19_, s20_, s21_, s22_, s23_, s24_, s25_, s26_, s27_, s28_, s29_, s30_, s31_, s32_, s33_, s34_, s35_⟩
        go_simp
        with_reducible rfl
      rotate_left
      · simp only [Act.put, List.setIfInBounds_toArray, List.set_cons_zero, List.set_cons_succ]
        rfl
      refine pure_ (i := 32) (N := some 62) (v := ?_) (a' := ?_) #[true, true, true, true, true, true, true, true, true, true, true, true, true, true, true, true, true, true, true, true, true, true, true, true, true, true, true, true, true, true, true, true, true, false, false, false, false, false, false, false, false, false, false, false] rfl rfl (by kernel_rfl) (fun _ _ _ h => h) (Or.inl ⟨by rfl, ?_⟩) ?_ ?_
      rotate_left
      · intro w'
        go_simp
        with_reducible rfl
      rotate_left
      · simp only [Act.put, List.setIfInBounds_toArray, List.set_cons_zero, List.set_cons_succ]
        rfl
      refine pure_ (i := 33) (N := some 63) (v := ?_) (a' := ?_) #[true, true, true, true, true, true, true, true, true, true, true, true, true, true, true, true, true, true, true, true, true, true, true, true, true, true, true, true, true, true, true, true, true, true, false, false, false, false, false, false, false, false, false, false] rfl rfl (by kernel_rfl) (fun _ _ _ h => h) (Or.inl ⟨by rfl, ?_⟩) ?_ ?_
      rotate_left
      · intro w'
        go_simp
        with_reducible rfl
      rotate_left
      · simp only [Act.put, List.setIfInBounds_toArray, List.set_cons_zero, List.set_cons_succ]
        rfl
      refine pure_ (i := 34) (N := some 64) (v := ?_) (a' := ?_) #[true, true, true, true, true, true, true, true, true, true, true, true, true, true, true, true, true, true, true, true, true, true, true, true, true, true, true, true, true, true, true, true, true, true, true, false, false, false, false, false, false, false, false, false] rfl rfl (by kernel_rfl) (fun _ _ _ h => h) (Or.inl ⟨by rfl, ?_⟩) ?_ ?_
      rotate_left
      · intro w'
        go_simp
        with_reducible rfl
      rotate_left
      · simp only [Act.put, List.setIfInBounds_toArray, List.set_cons_zero, List.set_cons_succ]
        rfl
      refine pure_ (i := 35) (N := some 65) (v := ?_) (a' := ?_) #[true, true, true, true, true, true, true, true, true, true, true, true, true, true, true, true, true, true, true, true, true, true, true, true, true, true, true, true, true, true, true, true, true, true, true, true, false, false, false, false, false, false, false, false] rfl rfl (by kernel_rfl) (fun _ _ _ h => h) (Or.inl ⟨by rfl, ?_⟩) ?_ ?_
      rotate_left
      · intro w'
        go_simp
        with_reducible rfl
      rotate_left
      · simp only [Act.put, List.setIfInBounds_toArray, List.set_cons_zero, List.set_cons_succ]
        rfl
      refine take_ (i := 36) (N := some 66) (v := ?_) (a' := ?_) #[true, true, true, true, true, true, true, true, true, true, true, true, true, true, true, true, true, true, true, true, true, true, true, true, true, true, true, true, true, true, true, true, true, true, true, true, true, false, false, false, false, false, false, false] rfl rfl (by kernel_rfl) (fun _ _ _ h => h) (Or.inl ⟨by rfl, ?_⟩) hHeld ?_ ?_
      rotate_left
      · rintro w' ⟨s0_, s1_, s2_, s3_, s4_, s5_, s6_, s7_, s8_, s9_, s10_, s11_, s12_, s13_, s14_, s15_, s16_, s17_, s18_, s19_, s20_, s21_, s22_, s23_, s24_, s25_, s26_, s27_, s28_, s29_, s30_, s31_, s32_, s33_, s34_, s35_⟩
        go_simp
        with_reducible rfl
      rotate_left
      · simp only [Act.put, List.setIfInBounds_toArray, List.set_cons_zero, List.set_cons_succ]
        rfl
      refine take_ (i := 37) (N := some 67) (v := ?_) (a' := ?_) #[true, true, true, true, true, true, true, true, true, true, true, true, true, true, true, true, true, true, true, true, true, true, true, true, true, true, true, true, true, true, true, true, true, true, true, true, true, true, false, false, false, false, false, false] rfl rfl (by kernel_rfl) (fun _ _ _ h => h) (Or.inl ⟨by rfl, ?_⟩) hHeld ?_ ?_
      rotate_left
      · rintro w' ⟨s0_, s1_, s2_, s3_, s4_, s5_, s6_, s7_, s8_, s9_, s10_, s11_, s12_, s13_, s14_, s15_, s16_, s17_, s18_, s19_, s20_, s21_, s22_, s23_, s24_, s25_, s26_, s27_, s28_, s29_, s30_, s31_, s32_, s33_, s34_, s35_⟩
        go_simp
        with_reducible rfl
      rotate_left
      · simp only [Act.put, List.setIfInBounds_toArray, List.set_cons_zero, List.set_cons_succ]
        rfl
      refine take_ (i := 40) (N := some 70) (v := ?_) (a' := ?_) #[true, true, true, true, true, true, true, true, true, true, true, true, true, true, true, true, true, true, true, true, true, true, true, true, true, true, true, true, true, true, true, true, true, true, true, true, true, true, false, false, true, false, false, false] rfl rfl (by kernel_rfl) (fun _ _ _ h => h) (Or.inl ⟨by rfl, ?_⟩) hHeld ?_ ?_
      rotate_left
      · rintro w' ⟨s0_, s1_, s2_, s3_, s4_, s5_, s6_, s7_, s8_, s9_, s10_, s11_, s12_, s13_, s14_, s15_, s16_, s17_, s18_, s19_, s20_, s21_, s22_, s23_, s24_, s25_, s26_, s27_, s28_, s29_, s30_, s31_, s32_, s33_, s34_, s35_⟩
        go_simp
        with_reducible rfl
      rotate_left
      · simp only [Act.put, List.setIfInBounds_toArray, List.set_cons_zero, List.set_cons_succ]
        rfl
      refine one_ (i := 38) (N := some 68) #[true, true, true, true, true, true, true, true, true, true, true, true, true, true, true, true, true, true, true, true, true, true, true, true, true, true, true, true, true, true, true, true, true, true, true, true, true, true, true, false, true, false, false, false] rfl rfl (by kernel_rfl) (by decide) (fun K hK => ?_)
      refine value_ (v := ?_) (w1 := ?_) (by rfl) rfl ?_ ?_
      rotate_left 2
      · go_simp
        first | rfl | (constructor <;> rfl)
      have BL := Blk.new w11 44 #[.bool b0, .int .i64 b1, .bool b2, .int .u64 b3, .int .i64 b4, .int .i64 b5, .bool b6, .int .u64 b7, .int .i64 b8, .bool a0, .int .i64 a1, .bool a2, .int .u64 a3, .int .i64 a4, .int .i64 a5, .bool a6, .int .u64 a7, .int .i64 a8]
      have BA := BA.alloc (.cells #[.bool b0, .int .i64 b1, .bool b2, .int .u64 b3, .int .i64 b4, .int .i64 b5, .bool b6, .int .u64 b7, .int .i64 b8, .bool a0, .int .i64 a1, .bool a2, .int .u64 a3, .int .i64 a4, .int .i64 a5, .bool a6, .int .u64 a7, .int .i64 a8] 44)
      have BB := BB.alloc (.cells #[.bool b0, .int .i64 b1, .bool b2, .int .u64 b3, .int .i64 b4, .int .i64 b5, .bool b6, .int .u64 b7, .int .i64 b8, .bool a0, .int .i64 a1, .bool a2, .int .u64 a3, .int .i64 a4, .int .i64 a5, .bool a6, .int .u64 a7, .int .i64 a8] 44)
      have BM := BM.alloc (.cells #[.bool b0, .int .i64 b1, .bool b2, .int .u64 b3, .int .i64 b4, .int .i64 b5, .bool b6, .int .u64 b7, .int .i64 b8, .bool a0, .int .i64 a1, .bool a2, .int .u64 a3, .int .i64 a4, .int .i64 a5, .bool a6, .int .u64 a7, .int .i64 a8] 44)
      have BH := BH.alloc (.cells #[.bool b0, .int .i64 b1, .bool b2, .int .u64 b3, .int .i64 b4, .int .i64 b5, .bool b6, .int .u64 b7, .int .i64 b8, .bool a0, .int .i64 a1, .bool a2, .int .u64 a3, .int .i64 a4, .int .i64 a5, .bool a6, .int .u64 a7, .int .i64 a8] 44)
      have HB := bl_alloc HB (.cells #[.bool b0, .int .i64 b1, .bool b2, .int .u64 b3, .int .i64 b4, .int .i64 b5, .bool b6, .int .u64 b7, .int .i64 b8, .bool a0, .int .i64 a1, .bool a2, .int .u64 a3, .int .i64 a4, .int .i64 a5, .bool a6, .int .u64 a7, .int .i64 a8] 44)
      refine hK.out _ _ ⟨BA.cell 0, BA.cell 1, BA.cell 2, BA.cell 3, BA.cell 4, BA.cell 5, BA.cell 6, BA.cell 7, BA.cell 8, BB.cell 0, BB.cell 1, BB.cell 2, BB.cell 3, BB.cell 4, BB.cell 5, BB.cell 6, BB.cell 7, BB.cell 8, BM.cell 0, BM.cell 1, BM.cell 2, BM.cell 3, BM.cell 4, BM.cell 5, BM.cell 6, BM.cell 7, BM.cell 8, BH.cell 0, BH.cell 1, BH.cell 2, BH.cell 3, BH.cell 4, BH.cell 5, BH.cell 6, BH.cell 7, BH.cell 8⟩ (fun hHeld => ?_)
      clear hK K
      refine norm_ (a' := ?_) ?_ ?_
      rotate_left
      · show Act.put _ (some 68) _ = _
        simp only [Act.put, List.setIfInBounds_toArray, List.set_cons_zero, List.set_cons_succ]
        rfl
      refine one_ (i := 39) (N := some 69) #[true, true, true, true, true, true, true, true, true, true, true, true, true, true, true, true, true, true, true, true, true, true, true, true, true, true, true, true, true, true, true, true, true, true, true, true, true, true, true, true, true, false, false, false] rfl rfl (by kernel_rfl) (by decide) (fun K hK => ?_)
      refine goes_ Try.func29 (by kernel_rfl) rfl #[.slice (some ⟨w11.heap.size, 0, none⟩) 2 2] (by rfl) rfl rfl (by simp only [List.map_toArray, List.map_cons, List.map_nil] <;> rfl) ?_
      with_reducible refine (HN.out _ _ (SlI.lit2 (x := ⟨b0, ⟨b1, b2, b3, b4⟩, ⟨b5, b6, b7, b8⟩⟩) (y := ⟨a0, ⟨a1, a2, a3, a4⟩, ⟨a5, a6, a7, a8⟩⟩) BL BL.lt)).mono ?_
      rintro e w12 ⟨rfl, hb⟩
      refine ⟨_, rfl, ?_⟩
      have BA := BA.call hb
      have BB := BB.call hb
      have BM := BM.call hb
      have BH := BH.call hb
      have HB := bl_trans HB hb
      refine hK.out _ _ ⟨BA.cell 0, BA.cell 1, BA.cell 2, BA.cell 3, BA.cell 4, BA.cell 5, BA.cell 6, BA.cell 7, BA.cell 8, BB.cell 0, BB.cell 1, BB.cell 2, BB.cell 3, BB.cell 4, BB.cell 5, BB.cell 6, BB.cell 7, BB.cell 8, BM.cell 0, BM.cell 1, BM.cell 2, BM.cell 3, BM.cell 4, BM.cell 5, BM.cell 6, BM.cell 7, BM.cell 8, BH.cell 0, BH.cell 1, BH.cell 2, BH.cell 3, BH.cell 4, BH.cell 5, BH.cell 6, BH.cell 7, BH.cell 8⟩ (fun hHeld => ?_)
      clear hK K hb
      refine norm_ (a' := ?_) ?_ ?_
      rotate_left
      · show Act.put _ (some 69) _ = _
        simp only [Act.put, List.setIfInBounds_toArray, List.set_cons_zero, List.set_cons_succ]
        rfl
      refine pure_ (i := 41) (N := some 71) (v := ?_) (a' := ?_) #[true, true, true, true, true, true, true, true, true, true, true, true, true, true, true, true, true, true, true, true, true, true, true, true, true, true, true, true, true, true, true, true, true, true, true, true, true, true, true, true, true, true, false, false] rfl rfl (by kernel_rfl) (fun _ _ _ h => h) (Or.inl ⟨by rfl, ?_⟩) ?_ ?_
      rotate_left
      · intro w'
        go_simp
        with_reducible rfl
      rotate_left
      · simp only [Act.put, List.setIfInBounds_toArray, List.set_cons_zero, List.set_cons_succ]
        rfl
      refine pure_ (i := 42) (N := some 72) (v := ?_) (a' := ?_) #[true, true, true, true, true, true, true, true, true, true, true, true, true, true, true, true, true, true, true, true, true, true, true, true, true, true, true, true, true, true, true, true, true, true, true, true, true, true, true, true, true, true, true, false] rfl rfl (by kernel_rfl) (fun _ _ _ h => h) (Or.inl ⟨by rfl, ?_⟩) ?_ ?_
      rotate_left
      · intro w'
        go_simp
        with_reducible rfl
      rotate_left
      · simp only [Act.put, List.setIfInBounds_toArray, List.set_cons_zero, List.set_cons_succ]
        rfl
      refine pure_ (i := 43) (N := some 4) (v := ?_) (a' := ?_) #[true, true, true, true, true, true, true, true, true, true, true, true, true, true, true, true, true, true, true, true, true, true, true, true, true, true, true, true, true, true, true, true, true, true, true, true, true, true, true, true, true, true, true, true] rfl rfl (by kernel_rfl) (fun _ _ _ h => h) (Or.inl ⟨by rfl, ?_⟩) ?_ ?_
      rotate_left
      · intro w'
        go_simp
        with_reducible rfl
      rotate_left
      · simp only [Act.put, List.setIfInBounds_toArray, List.set_cons_zero, List.set_cons_succ]
        rfl
      refine done_ (by kernel_rfl) ?_
      go_wp2
      go_ret
      exact ⟨rfl, HB⟩
end Go.Proofs.Ytakajahogjeiaaa.Wk
