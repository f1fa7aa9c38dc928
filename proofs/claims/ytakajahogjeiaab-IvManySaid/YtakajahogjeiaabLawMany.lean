/- Walk: peloruslaw08.IvMany returns true, for every input. -/
import Derived.Test.YtakajahogjeiaabAw08
import Derived.Test.YtakajahogjeiaabIvPl4
namespace Go.Proofs.Ytakajahogjeiaab.Wk
open Go.RowKit Go.Proofs.Pl Go.Proofs.YtakajahogjeiaabW.PrintLast
set_option linter.unusedSimpArgs false
set_option linter.unusedVariables false

theorem SlI.nil {w : World} {B : Nat} {A : Option Addr} : SlI w B A 0 [] := ⟨rfl, fun h => absurd h (by omega)⟩
theorem SlI.lit1 {w : World} {g B : Nat} {T : TypeId} {x : Iv} (h : Blk w g T #[.bool x.emp, .int .i64 x.lo.k, .bool x.lo.n, .int .u64 x.lo.m, .int .i64 x.lo.e, .int .i64 x.hi.k, .bool x.hi.n, .int .u64 x.hi.m, .int .i64 x.hi.e]) (hB : g < B) :
    SlI w B (some ⟨g, 0, none⟩) 1 [x] := by
  refine ⟨rfl, fun _ => ⟨g, 0, rfl, hB, fun i z hz => ?_⟩⟩
  match i, hz with
  | 0, hz =>
    simp only [List.getElem?_cons_zero, Option.some.injEq] at hz
    subst hz
    exact ⟨h.cell 0, h.cell 1, h.cell 2, h.cell 3, h.cell 4, h.cell 5, h.cell 6, h.cell 7, h.cell 8⟩
  | i + 1, hz => simp at hz
theorem SlI.lit3 {w : World} {g B : Nat} {T : TypeId} {x y z : Iv} (h : Blk w g T #[.bool x.emp, .int .i64 x.lo.k, .bool x.lo.n, .int .u64 x.lo.m, .int .i64 x.lo.e, .int .i64 x.hi.k, .bool x.hi.n, .int .u64 x.hi.m, .int .i64 x.hi.e, .bool y.emp, .int .i64 y.lo.k, .bool y.lo.n, .int .u64 y.lo.m, .int .i64 y.lo.e, .int .i64 y.hi.k, .bool y.hi.n, .int .u64 y.hi.m, .int .i64 y.hi.e, .bool z.emp, .int .i64 z.lo.k, .bool z.lo.n, .int .u64 z.lo.m, .int .i64 z.lo.e, .int .i64 z.hi.k, .bool z.hi.n, .int .u64 z.hi.m, .int .i64 z.hi.e]) (hB : g < B) :
    SlI w B (some ⟨g, 0, none⟩) 3 [x, y, z] := by
  refine ⟨rfl, fun _ => ⟨g, 0, rfl, hB, fun i v hz => ?_⟩⟩
  match i, hz with
  | 0, hz =>
    simp only [List.getElem?_cons_zero, Option.some.injEq] at hz
    subst hz
    exact ⟨h.cell 0, h.cell 1, h.cell 2, h.cell 3, h.cell 4, h.cell 5, h.cell 6, h.cell 7, h.cell 8⟩
  | 1, hz =>
    simp only [List.getElem?_cons_succ, List.getElem?_cons_zero, Option.some.injEq] at hz
    subst hz
    exact ⟨h.cell 9, h.cell 10, h.cell 11, h.cell 12, h.cell 13, h.cell 14, h.cell 15, h.cell 16, h.cell 17⟩
  | 2, hz =>
    simp only [List.getElem?_cons_succ, List.getElem?_cons_zero, Option.some.injEq] at hz
    subst hz
    exact ⟨h.cell 18, h.cell 19, h.cell 20, h.cell 21, h.cell 22, h.cell 23, h.cell 24, h.cell 25, h.cell 26⟩
  | i + 3, hz => simp at hz
theorem allI_lit (w : World) :
    Calls Try.prog 18 #[] w fun e w' => e = .returned (.agg #[.bool false, .int .i64 2, .bool true, .int .u64 0, .int .i64 0, .int .i64 2, .bool false, .int .u64 0, .int .i64 0]) ∧ Below w.heap.size w w' := allI_calls w

set_option maxRecDepth 100000 in
set_option maxHeartbeats 8000000 in
theorem ivMany_calls (a0 : Bool) (a1 : Int) (a2 : Bool) (a3 a4 a5 : Int) (a6 : Bool) (a7 a8 : Int) (b0 : Bool) (b1 : Int) (b2 : Bool) (b3 b4 b5 : Int) (b6 : Bool) (b7 b8 : Int) (c0 : Bool) (c1 : Int) (c2 : Bool) (c3 c4 c5 : Int) (c6 : Bool) (c7 c8 : Int) (w : World) (wa : WfIv ⟨a0, ⟨a1, a2, a3, a4⟩, ⟨a5, a6, a7, a8⟩⟩) (wb : WfIv ⟨b0, ⟨b1, b2, b3, b4⟩, ⟨b5, b6, b7, b8⟩⟩) (wc : WfIv ⟨c0, ⟨c1, c2, c3, c4⟩, ⟨c5, c6, c7, c8⟩⟩) :
    Calls Try.prog 3 #[.agg #[.bool a0, .int .i64 a1, .bool a2, .int .u64 a3, .int .i64 a4, .int .i64 a5, .bool a6, .int .u64 a7, .int .i64 a8], .agg #[.bool b0, .int .i64 b1, .bool b2, .int .u64 b3, .int .i64 b4, .int .i64 b5, .bool b6, .int .u64 b7, .int .i64 b8], .agg #[.bool c0, .int .i64 c1, .bool c2, .int .u64 c3, .int .i64 c4, .int .i64 c5, .bool c6, .int .u64 c7, .int .i64 c8]] w fun e w' => e = .returned (.bool true) ∧ Below w.heap.size w w' := by
  have HL := Lib.hid (fun p q r => law_many ⟨a0, ⟨a1, a2, a3, a4⟩, ⟨a5, a6, a7, a8⟩⟩ ⟨b0, ⟨b1, b2, b3, b4⟩, ⟨b5, b6, b7, b8⟩⟩ ⟨c0, ⟨c1, c2, c3, c4⟩, ⟨c5, c6, c7, c8⟩⟩ p q r wa wb wc)
  have HXA := Lib.hid (fun W => mayI_calls a0 a1 a2 a3 a4 a5 a6 a7 a8 W)
  have HXB := Lib.hid (fun W => mayI_calls b0 b1 b2 b3 b4 b5 b6 b7 b8 W)
  have HXC := Lib.hid (fun W => mayI_calls c0 c1 c2 c3 c4 c5 c6 c7 c8 W)
  have HM3 := Lib.hid (fun A W (h : SlI W W.heap.size A 3 [⟨a0, ⟨a1, a2, a3, a4⟩, ⟨a5, a6, a7, a8⟩⟩, ⟨b0, ⟨b1, b2, b3, b4⟩, ⟨b5, b6, b7, b8⟩⟩, ⟨c0, ⟨c1, c2, c3, c4⟩, ⟨c5, c6, c7, c8⟩⟩]) => meetI_calls A 3 3 _ W h (by omega))
  have HH3 := Lib.hid (fun A W (h : SlI W W.heap.size A 3 [⟨a0, ⟨a1, a2, a3, a4⟩, ⟨a5, a6, a7, a8⟩⟩, ⟨b0, ⟨b1, b2, b3, b4⟩, ⟨b5, b6, b7, b8⟩⟩, ⟨c0, ⟨c1, c2, c3, c4⟩, ⟨c5, c6, c7, c8⟩⟩]) => hullI_calls A 3 3 _ W h (by omega))
  have HCA := Lib.hid (fun A W (h : SlI W W.heap.size A 2 [⟨c0, ⟨c1, c2, c3, c4⟩, ⟨c5, c6, c7, c8⟩⟩, ⟨a0, ⟨a1, a2, a3, a4⟩, ⟨a5, a6, a7, a8⟩⟩]) => meetI_calls A 2 2 _ W h (by omega))
  have HAC := Lib.hid (fun A W (h : SlI W W.heap.size A 2 [⟨a0, ⟨a1, a2, a3, a4⟩, ⟨a5, a6, a7, a8⟩⟩, ⟨c0, ⟨c1, c2, c3, c4⟩, ⟨c5, c6, c7, c8⟩⟩]) => hullI_calls A 2 2 _ W h (by omega))
  have HA1 := Lib.hid (fun A W (h : SlI W W.heap.size A 1 [⟨a0, ⟨a1, a2, a3, a4⟩, ⟨a5, a6, a7, a8⟩⟩]) => meetI_calls A 1 1 _ W h (by omega))
  have HU1 := Lib.hid (fun A W (h : SlI W W.heap.size A 1 [⟨a0, ⟨a1, a2, a3, a4⟩, ⟨a5, a6, a7, a8⟩⟩]) => hullI_calls A 1 1 _ W h (by omega))
  have HUU := Lib.hid (fun A W (h : SlI W W.heap.size A 2 [⟨a0, ⟨a1, a2, a3, a4⟩, ⟨a5, a6, a7, a8⟩⟩, ⟨a0, ⟨a1, a2, a3, a4⟩, ⟨a5, a6, a7, a8⟩⟩]) => hullI_calls A 2 2 _ W h (by omega))
  have HMM := Lib.hid (fun A W (h : SlI W W.heap.size A 2 [⟨a0, ⟨a1, a2, a3, a4⟩, ⟨a5, a6, a7, a8⟩⟩, ⟨a0, ⟨a1, a2, a3, a4⟩, ⟨a5, a6, a7, a8⟩⟩]) => meetI_calls A 2 2 _ W h (by omega))
  have HM0 := Lib.hid (fun W => meetI_calls none 0 0 [] W SlI.nil (by omega))
  have HU0 := Lib.hid (fun W => hullI_calls none 0 0 [] W SlI.nil (by omega))
  rw [meet_nil] at HM0
  rw [hull_nil] at HU0
  generalize mayI ⟨a0, ⟨a1, a2, a3, a4⟩, ⟨a5, a6, a7, a8⟩⟩ = x at HXA HL
  generalize mayI ⟨b0, ⟨b1, b2, b3, b4⟩, ⟨b5, b6, b7, b8⟩⟩ = y at HXB HL
  generalize mayI ⟨c0, ⟨c1, c2, c3, c4⟩, ⟨c5, c6, c7, c8⟩⟩ = z at HXC HL
  generalize meetI [⟨c0, ⟨c1, c2, c3, c4⟩, ⟨c5, c6, c7, c8⟩⟩, ⟨a0, ⟨a1, a2, a3, a4⟩, ⟨a5, a6, a7, a8⟩⟩] = t at HCA HL
  generalize hullI [⟨a0, ⟨a1, a2, a3, a4⟩, ⟨a5, a6, a7, a8⟩⟩, ⟨c0, ⟨c1, c2, c3, c4⟩, ⟨c5, c6, c7, c8⟩⟩] = s at HAC HL
  generalize meetI [⟨a0, ⟨a1, a2, a3, a4⟩, ⟨a5, a6, a7, a8⟩⟩, ⟨b0, ⟨b1, b2, b3, b4⟩, ⟨b5, b6, b7, b8⟩⟩, ⟨c0, ⟨c1, c2, c3, c4⟩, ⟨c5, c6, c7, c8⟩⟩] = m at HM3 HL
  generalize hullI [⟨a0, ⟨a1, a2, a3, a4⟩, ⟨a5, a6, a7, a8⟩⟩, ⟨b0, ⟨b1, b2, b3, b4⟩, ⟨b5, b6, b7, b8⟩⟩, ⟨c0, ⟨c1, c2, c3, c4⟩, ⟨c5, c6, c7, c8⟩⟩] = h at HH3 HL
  obtain ⟨t0, ⟨t1, t2, t3, t4⟩, ⟨t5, t6, t7, t8⟩⟩ := t
  obtain ⟨s0, ⟨s1, s2, s3, s4⟩, ⟨s5, s6, s7, s8⟩⟩ := s
  have HTB := Lib.hid (fun A W (h : SlI W W.heap.size A 2 [⟨t0, ⟨t1, t2, t3, t4⟩, ⟨t5, t6, t7, t8⟩⟩, ⟨b0, ⟨b1, b2, b3, b4⟩, ⟨b5, b6, b7, b8⟩⟩]) => meetI_calls A 2 2 _ W h (by omega))
  have HBS := Lib.hid (fun A W (h : SlI W W.heap.size A 2 [⟨b0, ⟨b1, b2, b3, b4⟩, ⟨b5, b6, b7, b8⟩⟩, ⟨s0, ⟨s1, s2, s3, s4⟩, ⟨s5, s6, s7, s8⟩⟩]) => hullI_calls A 2 2 _ W h (by omega))
  generalize meetI [⟨t0, ⟨t1, t2, t3, t4⟩, ⟨t5, t6, t7, t8⟩⟩, ⟨b0, ⟨b1, b2, b3, b4⟩, ⟨b5, b6, b7, b8⟩⟩] = m' at HTB HL
  generalize hullI [⟨b0, ⟨b1, b2, b3, b4⟩, ⟨b5, b6, b7, b8⟩⟩, ⟨s0, ⟨s1, s2, s3, s4⟩, ⟨s5, s6, s7, s8⟩⟩] = h' at HBS HL
  generalize meetI [⟨a0, ⟨a1, a2, a3, a4⟩, ⟨a5, a6, a7, a8⟩⟩] = a1_ at HA1 HL
  generalize hullI [⟨a0, ⟨a1, a2, a3, a4⟩, ⟨a5, a6, a7, a8⟩⟩] = a2_ at HU1 HL
  generalize hullI [⟨a0, ⟨a1, a2, a3, a4⟩, ⟨a5, a6, a7, a8⟩⟩, ⟨a0, ⟨a1, a2, a3, a4⟩, ⟨a5, a6, a7, a8⟩⟩] = a3_ at HUU HL
  generalize meetI [⟨a0, ⟨a1, a2, a3, a4⟩, ⟨a5, a6, a7, a8⟩⟩, ⟨a0, ⟨a1, a2, a3, a4⟩, ⟨a5, a6, a7, a8⟩⟩] = a4_ at HMM HL
  obtain ⟨m0, ⟨m1, m2, m3, m4⟩, ⟨m5, m6, m7, m8⟩⟩ := m
  obtain ⟨h0, ⟨h1, h2, h3, h4⟩, ⟨h5, h6, h7, h8⟩⟩ := h
  dsimp only at HCA HAC HM3 HH3
  dsimp only [allI, infN] at HM0
  dsimp only [noneI, zero] at HU0
  go_enter Try.func3, Try.ntmps3
  go_wp2_with fail
  have BA := ((Blk.new w 26 #[.bool a0, .int .i64 a1, .bool a2, .int .u64 a3, .int .i64 a4, .int .i64 a5, .bool a6, .int .u64 a7, .int .i64 a8]).alloc (.cells #[.bool b0, .int .i64 b1, .bool b2, .int .u64 b3, .int .i64 b4, .int .i64 b5, .bool b6, .int .u64 b7, .int .i64 b8] 26)).alloc (.cells #[.bool c0, .int .i64 c1, .bool c2, .int .u64 c3, .int .i64 c4, .int .i64 c5, .bool c6, .int .u64 c7, .int .i64 c8] 26)
  have BB := (Blk.new1 w (.cells #[.bool a0, .int .i64 a1, .bool a2, .int .u64 a3, .int .i64 a4, .int .i64 a5, .bool a6, .int .u64 a7, .int .i64 a8] 26) 26 #[.bool b0, .int .i64 b1, .bool b2, .int .u64 b3, .int .i64 b4, .int .i64 b5, .bool b6, .int .u64 b7, .int .i64 b8]).alloc (.cells #[.bool c0, .int .i64 c1, .bool c2, .int .u64 c3, .int .i64 c4, .int .i64 c5, .bool c6, .int .u64 c7, .int .i64 c8] 26)
  have BC0 := Blk.new2 w (.cells #[.bool a0, .int .i64 a1, .bool a2, .int .u64 a3, .int .i64 a4, .int .i64 a5, .bool a6, .int .u64 a7, .int .i64 a8] 26) (.cells #[.bool b0, .int .i64 b1, .bool b2, .int .u64 b3, .int .i64 b4, .int .i64 b5, .bool b6, .int .u64 b7, .int .i64 b8] 26) 26 #[.bool c0, .int .i64 c1, .bool c2, .int .u64 c3, .int .i64 c4, .int .i64 c5, .bool c6, .int .u64 c7, .int .i64 c8]
  have BC : Blk _ (w.heap.size + 1 + 1) _ _ := BC0
  clear BC0
  have HB := bl_alloc (bl_alloc (bl_alloc (Below.refl w.heap.size w) (.cells #[.bool a0, .int .i64 a1, .bool a2, .int .u64 a3, .int .i64 a4, .int .i64 a5, .bool a6, .int .u64 a7, .int .i64 a8] 26)) (.cells #[.bool b0, .int .i64 b1, .bool b2, .int .u64 b3, .int .i64 b4, .int .i64 b5, .bool b6, .int .u64 b7, .int .i64 b8] 26)) (.cells #[.bool c0, .int .i64 c1, .bool c2, .int .u64 c3, .int .i64 c4, .int .i64 c5, .bool c6, .int .u64 c7, .int .i64 c8] 26)
  refine (awake08_calls _).mono ?_
  rintro e w1 ⟨rfl, hb⟩
  have BA := BA.call hb
  have BB := BB.call hb
  have BC := BC.call hb
  have HB := bl_trans HB hb
  clear hb
  obtain ⟨⟨p0, p1, p2, p3, p4, p5, p6, p7, p8⟩, _⟩ := BA.c9
  obtain ⟨⟨r0, r1, r2, r3, r4, r5, r6, r7, r8⟩, _⟩ := BB.c9
  obtain ⟨⟨s0, s1, s2, s3, s4, s5, s6, s7, s8⟩, _⟩ := BC.c9
  go_wp2_with fail
  refine (HXA.out _).mono ?_
  rintro e w2 ⟨rfl, hb⟩
  clear p0 p1 p2 p3 p4 p5 p6 p7 p8 r0 r1 r2 r3 r4 r5 r6 r7 r8 s0 s1 s2 s3 s4 s5 s6 s7 s8
  have BA := BA.call hb
  have BB := BB.call hb
  have BC := BC.call hb
  have HB := bl_trans HB hb
  clear hb
  obtain ⟨⟨p0, p1, p2, p3, p4, p5, p6, p7, p8⟩, _⟩ := BA.c9
  obtain ⟨⟨r0, r1, r2, r3, r4, r5, r6, r7, r8⟩, _⟩ := BB.c9
  obtain ⟨⟨s0, s1, s2, s3, s4, s5, s6, s7, s8⟩, _⟩ := BC.c9
  cases x
  · clear HL HXA HXB HXC HM3 HH3 HCA HAC HA1 HU1 HUU HMM HM0 HU0 HTB HBS
    go_wp2
    go_ret
    exact ⟨rfl, HB⟩
  · skip
    go_wp2_with fail
    refine (HXB.out _).mono ?_
    rintro e w3 ⟨rfl, hb⟩
    clear p0 p1 p2 p3 p4 p5 p6 p7 p8 r0 r1 r2 r3 r4 r5 r6 r7 r8 s0 s1 s2 s3 s4 s5 s6 s7 s8
    have BA := BA.call hb
    have BB := BB.call hb
    have BC := BC.call hb
    have HB := bl_trans HB hb
    clear hb
    obtain ⟨⟨p0, p1, p2, p3, p4, p5, p6, p7, p8⟩, _⟩ := BA.c9
    obtain ⟨⟨r0, r1, r2, r3, r4, r5, r6, r7, r8⟩, _⟩ := BB.c9
    obtain ⟨⟨s0, s1, s2, s3, s4, s5, s6, s7, s8⟩, _⟩ := BC.c9
    cases y
    · clear HL HXA HXB HXC HM3 HH3 HCA HAC HA1 HU1 HUU HMM HM0 HU0 HTB HBS
      go_wp2
      go_ret
      exact ⟨rfl, HB⟩
    · skip
      go_wp2_with fail
      refine (HXC.out _).mono ?_
      rintro e w4 ⟨rfl, hb⟩
      clear p0 p1 p2 p3 p4 p5 p6 p7 p8 r0 r1 r2 r3 r4 r5 r6 r7 r8 s0 s1 s2 s3 s4 s5 s6 s7 s8
      have BA := BA.call hb
      have BB := BB.call hb
      have BC := BC.call hb
      have HB := bl_trans HB hb
      clear hb
      obtain ⟨⟨p0, p1, p2, p3, p4, p5, p6, p7, p8⟩, _⟩ := BA.c9
      obtain ⟨⟨r0, r1, r2, r3, r4, r5, r6, r7, r8⟩, _⟩ := BB.c9
      obtain ⟨⟨s0, s1, s2, s3, s4, s5, s6, s7, s8⟩, _⟩ := BC.c9
      cases z
      · clear HL HXA HXB HXC HM3 HH3 HCA HAC HA1 HU1 HUU HMM HM0 HU0 HTB HBS
        go_wp2
        go_ret
        exact ⟨rfl, HB⟩
      · skip
        obtain ⟨rfl, rfl, rfl, rfl, rfl, rfl⟩ := HL.out (by simp) (by simp) (by simp)
        dsimp only at HTB HBS HA1 HU1 HUU HMM
        clear HL HXA HXB HXC
        go_wp2_with fail
        refine (HM3.out _ _ (SlI.lit3 (x := ⟨a0, ⟨a1, a2, a3, a4⟩, ⟨a5, a6, a7, a8⟩⟩) (y := ⟨b0, ⟨b1, b2, b3, b4⟩, ⟨b5, b6, b7, b8⟩⟩) (z := ⟨c0, ⟨c1, c2, c3, c4⟩, ⟨c5, c6, c7, c8⟩⟩) (Blk.new w4 26 #[.bool a0, .int .i64 a1, .bool a2, .int .u64 a3, .int .i64 a4, .int .i64 a5, .bool a6, .int .u64 a7, .int .i64 a8, .bool b0, .int .i64 b1, .bool b2, .int .u64 b3, .int .i64 b4, .int .i64 b5, .bool b6, .int .u64 b7, .int .i64 b8, .bool c0, .int .i64 c1, .bool c2, .int .u64 c3, .int .i64 c4, .int .i64 c5, .bool c6, .int .u64 c7, .int .i64 c8]) (by simp))).mono ?_
        rintro e w5 ⟨rfl, hb⟩
        clear p0 p1 p2 p3 p4 p5 p6 p7 p8 r0 r1 r2 r3 r4 r5 r6 r7 r8 s0 s1 s2 s3 s4 s5 s6 s7 s8
        have BA := (BA.alloc (.cells #[.bool a0, .int .i64 a1, .bool a2, .int .u64 a3, .int .i64 a4, .int .i64 a5, .bool a6, .int .u64 a7, .int .i64 a8, .bool b0, .int .i64 b1, .bool b2, .int .u64 b3, .int .i64 b4, .int .i64 b5, .bool b6, .int .u64 b7, .int .i64 b8, .bool c0, .int .i64 c1, .bool c2, .int .u64 c3, .int .i64 c4, .int .i64 c5, .bool c6, .int .u64 c7, .int .i64 c8] 26)).call hb
        have BB := (BB.alloc (.cells #[.bool a0, .int .i64 a1, .bool a2, .int .u64 a3, .int .i64 a4, .int .i64 a5, .bool a6, .int .u64 a7, .int .i64 a8, .bool b0, .int .i64 b1, .bool b2, .int .u64 b3, .int .i64 b4, .int .i64 b5, .bool b6, .int .u64 b7, .int .i64 b8, .bool c0, .int .i64 c1, .bool c2, .int .u64 c3, .int .i64 c4, .int .i64 c5, .bool c6, .int .u64 c7, .int .i64 c8] 26)).call hb
        have BC := (BC.alloc (.cells #[.bool a0, .int .i64 a1, .bool a2, .int .u64 a3, .int .i64 a4, .int .i64 a5, .bool a6, .int .u64 a7, .int .i64 a8, .bool b0, .int .i64 b1, .bool b2, .int .u64 b3, .int .i64 b4, .int .i64 b5, .bool b6, .int .u64 b7, .int .i64 b8, .bool c0, .int .i64 c1, .bool c2, .int .u64 c3, .int .i64 c4, .int .i64 c5, .bool c6, .int .u64 c7, .int .i64 c8] 26)).call hb
        have HB := bl_trans (bl_alloc HB (.cells #[.bool a0, .int .i64 a1, .bool a2, .int .u64 a3, .int .i64 a4, .int .i64 a5, .bool a6, .int .u64 a7, .int .i64 a8, .bool b0, .int .i64 b1, .bool b2, .int .u64 b3, .int .i64 b4, .int .i64 b5, .bool b6, .int .u64 b7, .int .i64 b8, .bool c0, .int .i64 c1, .bool c2, .int .u64 c3, .int .i64 c4, .int .i64 c5, .bool c6, .int .u64 c7, .int .i64 c8] 26)) hb
        clear hb
        have BM := Blk.new w5 26 #[.bool m0, .int .i64 m1, .bool m2, .int .u64 m3, .int .i64 m4, .int .i64 m5, .bool m6, .int .u64 m7, .int .i64 m8]
        have BA := BA.alloc (.cells #[.bool m0, .int .i64 m1, .bool m2, .int .u64 m3, .int .i64 m4, .int .i64 m5, .bool m6, .int .u64 m7, .int .i64 m8] 26)
        have BB := BB.alloc (.cells #[.bool m0, .int .i64 m1, .bool m2, .int .u64 m3, .int .i64 m4, .int .i64 m5, .bool m6, .int .u64 m7, .int .i64 m8] 26)
        have BC := BC.alloc (.cells #[.bool m0, .int .i64 m1, .bool m2, .int .u64 m3, .int .i64 m4, .int .i64 m5, .bool m6, .int .u64 m7, .int .i64 m8] 26)
        have HB := bl_alloc HB (.cells #[.bool m0, .int .i64 m1, .bool m2, .int .u64 m3, .int .i64 m4, .int .i64 m5, .bool m6, .int .u64 m7, .int .i64 m8] 26)
        obtain ⟨⟨p0, p1, p2, p3, p4, p5, p6, p7, p8⟩, _⟩ := BA.c9
        obtain ⟨⟨r0, r1, r2, r3, r4, r5, r6, r7, r8⟩, _⟩ := BB.c9
        obtain ⟨⟨s0, s1, s2, s3, s4, s5, s6, s7, s8⟩, _⟩ := BC.c9
        go_wp2_with fail
        refine (HH3.out _ _ (SlI.lit3 (x := ⟨a0, ⟨a1, a2, a3, a4⟩, ⟨a5, a6, a7, a8⟩⟩) (y := ⟨b0, ⟨b1, b2, b3, b4⟩, ⟨b5, b6, b7, b8⟩⟩) (z := ⟨c0, ⟨c1, c2, c3, c4⟩, ⟨c5, c6, c7, c8⟩⟩) (Blk.new1 w5 (.cells #[.bool m0, .int .i64 m1, .bool m2, .int .u64 m3, .int .i64 m4, .int .i64 m5, .bool m6, .int .u64 m7, .int .i64 m8] 26) 26 #[.bool a0, .int .i64 a1, .bool a2, .int .u64 a3, .int .i64 a4, .int .i64 a5, .bool a6, .int .u64 a7, .int .i64 a8, .bool b0, .int .i64 b1, .bool b2, .int .u64 b3, .int .i64 b4, .int .i64 b5, .bool b6, .int .u64 b7, .int .i64 b8, .bool c0, .int .i64 c1, .bool c2, .int .u64 c3, .int .i64 c4, .int .i64 c5, .bool c6, .int .u64 c7, .int .i64 c8]) (by simp))).mono ?_
        rintro e w6 ⟨rfl, hb⟩
        clear p0 p1 p2 p3 p4 p5 p6 p7 p8 r0 r1 r2 r3 r4 r5 r6 r7 r8 s0 s1 s2 s3 s4 s5 s6 s7 s8
        have BA := (BA.alloc (.cells #[.bool a0, .int .i64 a1, .bool a2, .int .u64 a3, .int .i64 a4, .int .i64 a5, .bool a6, .int .u64 a7, .int .i64 a8, .bool b0, .int .i64 b1, .bool b2, .int .u64 b3, .int .i64 b4, .int .i64 b5, .bool b6, .int .u64 b7, .int .i64 b8, .bool c0, .int .i64 c1, .bool c2, .int .u64 c3, .int .i64 c4, .int .i64 c5, .bool c6, .int .u64 c7, .int .i64 c8] 26)).call hb
        have BB := (BB.alloc (.cells #[.bool a0, .int .i64 a1, .bool a2, .int .u64 a3, .int .i64 a4, .int .i64 a5, .bool a6, .int .u64 a7, .int .i64 a8, .bool b0, .int .i64 b1, .bool b2, .int .u64 b3, .int .i64 b4, .int .i64 b5, .bool b6, .int .u64 b7, .int .i64 b8, .bool c0, .int .i64 c1, .bool c2, .int .u64 c3, .int .i64 c4, .int .i64 c5, .bool c6, .int .u64 c7, .int .i64 c8] 26)).call hb
        have BC := (BC.alloc (.cells #[.bool a0, .int .i64 a1, .bool a2, .int .u64 a3, .int .i64 a4, .int .i64 a5, .bool a6, .int .u64 a7, .int .i64 a8, .bool b0, .int .i64 b1, .bool b2, .int .u64 b3, .int .i64 b4, .int .i64 b5, .bool b6, .int .u64 b7, .int .i64 b8, .bool c0, .int .i64 c1, .bool c2, .int .u64 c3, .int .i64 c4, .int .i64 c5, .bool c6, .int .u64 c7, .int .i64 c8] 26)).call hb
        have BM := (BM.alloc (.cells #[.bool a0, .int .i64 a1, .bool a2, .int .u64 a3, .int .i64 a4, .int .i64 a5, .bool a6, .int .u64 a7, .int .i64 a8, .bool b0, .int .i64 b1, .bool b2, .int .u64 b3, .int .i64 b4, .int .i64 b5, .bool b6, .int .u64 b7, .int .i64 b8, .bool c0, .int .i64 c1, .bool c2, .int .u64 c3, .int .i64 c4, .int .i64 c5, .bool c6, .int .u64 c7, .int .i64 c8] 26)).call hb
        have HB := bl_trans (bl_alloc HB (.cells #[.bool a0, .int .i64 a1, .bool a2, .int .u64 a3, .int .i64 a4, .int .i64 a5, .bool a6, .int .u64 a7, .int .i64 a8, .bool b0, .int .i64 b1, .bool b2, .int .u64 b3, .int .i64 b4, .int .i64 b5, .bool b6, .int .u64 b7, .int .i64 b8, .bool c0, .int .i64 c1, .bool c2, .int .u64 c3, .int .i64 c4, .int .i64 c5, .bool c6, .int .u64 c7, .int .i64 c8] 26)) hb
        clear hb
        have BH := Blk.new w6 26 #[.bool h0, .int .i64 h1, .bool h2, .int .u64 h3, .int .i64 h4, .int .i64 h5, .bool h6, .int .u64 h7, .int .i64 h8]
        have BA := BA.alloc (.cells #[.bool h0, .int .i64 h1, .bool h2, .int .u64 h3, .int .i64 h4, .int .i64 h5, .bool h6, .int .u64 h7, .int .i64 h8] 26)
        have BB := BB.alloc (.cells #[.bool h0, .int .i64 h1, .bool h2, .int .u64 h3, .int .i64 h4, .int .i64 h5, .bool h6, .int .u64 h7, .int .i64 h8] 26)
        have BC := BC.alloc (.cells #[.bool h0, .int .i64 h1, .bool h2, .int .u64 h3, .int .i64 h4, .int .i64 h5, .bool h6, .int .u64 h7, .int .i64 h8] 26)
        have BM := BM.alloc (.cells #[.bool h0, .int .i64 h1, .bool h2, .int .u64 h3, .int .i64 h4, .int .i64 h5, .bool h6, .int .u64 h7, .int .i64 h8] 26)
        have HB := bl_alloc HB (.cells #[.bool h0, .int .i64 h1, .bool h2, .int .u64 h3, .int .i64 h4, .int .i64 h5, .bool h6, .int .u64 h7, .int .i64 h8] 26)
        go_wp2_with fail
        replace BA := BA.drew
        replace BB := BB.drew
        replace BC := BC.drew
        replace BM := BM.drew
        replace BH := BH.drew
        replace HB := bl_drew HB
        have e1 := fun W => run_eqIv W m0 m0 m1 m1 m2 m2 m3 m3 m4 m4 m5 m5 m6 m6 m7 m7 m8 m8
        have e2 := fun W => run_eqIv W h0 h0 h1 h1 h2 h2 h3 h3 h4 h4 h5 h5 h6 h6 h7 h7 h8 h8
        have e3 := fun W => run_eqIv W a0 a0 a1 a1 a2 a2 a3 a3 a4 a4 a5 a5 a6 a6 a7 a7 a8 a8
        have e4 := fun W => run_eqIv W false false 2 2 true true 0 0 0 0 2 2 false false 0 0 0 0
        have e5 := fun W => run_eqIv W true true 0 0 false false 0 0 0 0 0 0 false false 0 0 0 0
        rw [decide_eq_true rfl] at e1 e2 e3 e4 e5
        refine start_ (n := 64) (S := fun w' => w'.cell? ⟨w.heap.size, 0, none⟩ = some (.bool a0) ∧ w'.cell? ⟨w.heap.size, 1, none⟩ = some (.int .i64 a1) ∧ w'.cell? ⟨w.heap.size, 2, none⟩ = some (.bool a2) ∧ w'.cell? ⟨w.heap.size, 3, none⟩ = some (.int .u64 a3) ∧ w'.cell? ⟨w.heap.size, 4, none⟩ = some (.int .i64 a4) ∧ w'.cell? ⟨w.heap.size, 5, none⟩ = some (.int .i64 a5) ∧ w'.cell? ⟨w.heap.size, 6, none⟩ = some (.bool a6) ∧ w'.cell? ⟨w.heap.size, 7, none⟩ = some (.int .u64 a7) ∧ w'.cell? ⟨w.heap.size, 8, none⟩ = some (.int .i64 a8) ∧ w'.cell? ⟨(w.heap.size + 1), 0, none⟩ = some (.bool b0) ∧ w'.cell? ⟨(w.heap.size + 1), 1, none⟩ = some (.int .i64 b1) ∧ w'.cell? ⟨(w.heap.size + 1), 2, none⟩ = some (.bool b2) ∧ w'.cell? ⟨(w.heap.size + 1), 3, none⟩ = some (.int .u64 b3) ∧ w'.cell? ⟨(w.heap.size + 1), 4, none⟩ = some (.int .i64 b4) ∧ w'.cell? ⟨(w.heap.size + 1), 5, none⟩ = some (.int .i64 b5) ∧ w'.cell? ⟨(w.heap.size + 1), 6, none⟩ = some (.bool b6) ∧ w'.cell? ⟨(w.heap.size + 1), 7, none⟩ = some (.int .u64 b7) ∧ w'.cell? ⟨(w.heap.size + 1), 8, none⟩ = some (.int .i64 b8) ∧ w'.cell? ⟨(w.heap.size + 1 + 1), 0, none⟩ = some (.bool c0) ∧ w'.cell? ⟨(w.heap.size + 1 + 1), 1, none⟩ = some (.int .i64 c1) ∧ w'.cell? ⟨(w.heap.size + 1 + 1), 2, none⟩ = some (.bool c2) ∧ w'.cell? ⟨(w.heap.size + 1 + 1), 3, none⟩ = some (.int .u64 c3) ∧ w'.cell? ⟨(w.heap.size + 1 + 1), 4, none⟩ = some (.int .i64 c4) ∧ w'.cell? ⟨(w.heap.size + 1 + 1), 5, none⟩ = some (.int .i64 c5) ∧ w'.cell? ⟨(w.heap.size + 1 + 1), 6, none⟩ = some (.bool c6) ∧ w'.cell? ⟨(w.heap.size + 1 + 1), 7, none⟩ = some (.int .u64 c7) ∧ w'.cell? ⟨(w.heap.size + 1 + 1), 8, none⟩ = some (.int .i64 c8) ∧ w'.cell? ⟨w5.heap.size, 0, none⟩ = some (.bool m0) ∧ w'.cell? ⟨w5.heap.size, 1, none⟩ = some (.int .i64 m1) ∧ w'.cell? ⟨w5.heap.size, 2, none⟩ = some (.bool m2) ∧ w'.cell? ⟨w5.heap.size, 3, none⟩ = some (.int .u64 m3) ∧ w'.cell? ⟨w5.heap.size, 4, none⟩ = some (.int .i64 m4) ∧ w'.cell? ⟨w5.heap.size, 5, none⟩ = some (.int .i64 m5) ∧ w'.cell? ⟨w5.heap.size, 6, none⟩ = some (.bool m6) ∧ w'.cell? ⟨w5.heap.size, 7, none⟩ = some (.int .u64 m7) ∧ w'.cell? ⟨w5.heap.size, 8, none⟩ = some (.int .i64 m8) ∧ w'.cell? ⟨w6.heap.size, 0, none⟩ = some (.bool h0) ∧ w'.cell? ⟨w6.heap.size, 1, none⟩ = some (.int .i64 h1) ∧ w'.cell? ⟨w6.heap.size, 2, none⟩ = some (.bool h2) ∧ w'.cell? ⟨w6.heap.size, 3, none⟩ = some (.int .u64 h3) ∧ w'.cell? ⟨w6.heap.size, 4, none⟩ = some (.int .i64 h4) ∧ w'.cell? ⟨w6.heap.size, 5, none⟩ = some (.int .i64 h5) ∧ w'.cell? ⟨w6.heap.size, 6, none⟩ = some (.bool h6) ∧ w'.cell? ⟨w6.heap.size, 7, none⟩ = some (.int .u64 h7) ∧ w'.cell? ⟨w6.heap.size, 8, none⟩ = some (.int .i64 h8)) (ds := []) #[false, false, false, false, false, false, false, false, false, false, false, false, false, false, false, false, false, false, false, false, false, false, false, false, false, false, false, false, false, false, false, false, false, false, false, false, false, false, false, false, false, false, false, false, false, false, false, false, false, false, false, false, false, false, false, false, false, false, false, false, false, false, false, false] (by kernel_rfl) rfl rfl ⟨BA.cell 0, BA.cell 1, BA.cell 2, BA.cell 3, BA.cell 4, BA.cell 5, BA.cell 6, BA.cell 7, BA.cell 8, BB.cell 0, BB.cell 1, BB.cell 2, BB.cell 3, BB.cell 4, BB.cell 5, BB.cell 6, BB.cell 7, BB.cell 8, BC.cell 0, BC.cell 1, BC.cell 2, BC.cell 3, BC.cell 4, BC.cell 5, BC.cell 6, BC.cell 7, BC.cell 8, BM.cell 0, BM.cell 1, BM.cell 2, BM.cell 3, BM.cell 4, BM.cell 5, BM.cell 6, BM.cell 7, BM.cell 8, BH.cell 0, BH.cell 1, BH.cell 2, BH.cell 3, BH.cell 4, BH.cell 5, BH.cell 6, BH.cell 7, BH.cell 8⟩ (fun hHeld => ?_)
        generalize (w6.alloc (.cells #[.bool h0, .int .i64 h1, .bool h2, .int .u64 h3, .int .i64 h4, .int .i64 h5, .bool h6, .int .u64 h7, .int .i64 h8] 26)).drew = w7 at BA BB BC BM BH HB hHeld ⊢
        refine pure_ (i := 0) (N := some 35) (v := ?_) (a' := ?_) #[true, false, false, false, false, false, false, false, false, false, false, false, false, false, false, false, false, false, false, false, false, false, false, false, false, false, false, false, false, false, false, false, false, false, false, false, false, false, false, false, false, false, false, false, false, false, false, false, false, false, false, false, false, false, false, false, false, false, false, false, false, false, false, false] rfl rfl (by as_aux_lemma => kernel_rfl) (fun _ _ _ h => h) (Or.inl ⟨by rfl, ?_⟩) ?_ ?_
        rotate_left
        · intro w'
          go_simp
          with_reducible rfl
        rotate_left
        · simp only [Act.put, List.setIfInBounds_toArray, List.set_cons_zero, List.set_cons_succ]
          rfl
        refine pure_ (i := 1) (N := some 36) (v := ?_) (a' := ?_) #[true, true, false, false, false, false, false, false, false, false, false, false, false, false, false, false, false, false, false, false, false, false, false, false, false, false, false, false, false, false, false, false, false, false, false, false, false, false, false, false, false, false, false, false, false, false, false, false, false, false, false, false, false, false, false, false, false, false, false, false, false, false, false, false] rfl rfl (by as_aux_lemma => kernel_rfl) (fun _ _ _ h => h) (Or.inl ⟨by rfl, ?_⟩) ?_ ?_
        rotate_left
        · intro w'
          go_simp
          with_reducible rfl
        rotate_left
        · simp only [Act.put, List.setIfInBounds_toArray, List.set_cons_zero, List.set_cons_succ]
          rfl
        refine take_ (i := 2) (N := some 37) (v := ?_) (a' := ?_) #[true, true, true, false, false, false, false, false, false, false, false, false, false, false, false, false, false, false, false, false, false, false, false, false, false, false, false, false, false, false, false, false, false, false, false, false, false, false, false, false, false, false, false, false, false, false, false, false, false, false, false, false, false, false, false, false, false, false, false, false, false, false, false, false] rfl rfl (by as_aux_lemma => kernel_rfl) (fun _ _ _ h => h) (Or.inl ⟨by rfl, ?_⟩) hHeld ?_ ?_
        rotate_left
        · rintro w' ⟨s0_, s1_, s2_, s3_, s4_, s5_, s6_, s7_, s8_, s9_, s10_, s11_, s12_, s13_, s14_, s15_, s16_, s17_, s18_, s19_, s20_, s21_, s22_, s23_, s24_, s25_, s26_, s27_, s28_, s29_, s30_, s31_, s32_, s33_, s34_, s35_, s36_, s37_, s38_, s39_, s40_, s41_, s42_, s43_, s44_⟩
          go_simp
          with_reducible rfl
        rotate_left
        · simp only [Act.put, List.setIfInBounds_toArray, List.set_cons_zero, List.set_cons_succ]
          rfl
        refine take_ (i := 3) (N := some 38) (v := ?_) (a' := ?_) #[true, true, true, true, false, false, false, false, false, false, false, false, false, false, false, false, false, false, false, false, false, false, false, false, false, false, false, false, false, false, false, false, false, false, false, false, false, false, false, false, false, false, false, false, false, false, false, false, false, false, false, false, false, false, false, false, false, false, false, false, false, false, false, false] rfl rfl (by as_aux_lemma => kernel_rfl) (fun _ _ _ h => h) (Or.inl ⟨by rfl, ?_⟩) hHeld ?_ ?_
        rotate_left
        · rintro w' ⟨s0_, s1_, s2_, s3_, s4_, s5_, s6_, s7_, s8_, s9_, s10_, s11_, s12_, s13_, s14_, s15_, s16_, s17_, s18_, s19_, s20_, s21_, s22_, s23_, s24_, s25_, s26_, s27_, s28_, s29_, s30_, s31_, s32_, s33_, s34_, s35_, s36_, s37_, s38_, s39_, s40_, s41_, s42_, s43_, s44_⟩
          go_simp
          with_reducible rfl
        rotate_left
        · simp only [Act.put, List.setIfInBounds_toArray, List.set_cons_zero, List.set_cons_succ]
          rfl
        refine take_ (i := 4) (N := some 39) (v := ?_) (a' := ?_) #[true, true, true, true, true, false, false, false, false, false, false, false, false, false, false, false, false, false, false, false, false, false, false, false, false, false, false, false, false, false, false, false, false, false, false, false, false, false, false, false, false, false, false, false, false, false, false, false, false, false, false, false, false, false, false, false, false, false, false, false, false, false, false, false] rfl rfl (by as_aux_lemma => kernel_rfl) (fun _ _ _ h => h) (Or.inl ⟨by rfl, ?_⟩) hHeld ?_ ?_
        rotate_left
        · rintro w' ⟨s0_, s1_, s2_, s3_, s4_, s5_, s6_, s7_, s8_, s9_, s10_, s11_, s12_, s13_, s14_, s15_, s16_, s17_, s18_, s19_, s20_, s21_, s22_, s23_, s24_, s25_, s26_, s27_, s28_, s29_, s30_, s31_, s32_, s33_, s34_, s35_, s36_, s37_, s38_, s39_, s40_, s41_, s42_, s43_, s44_⟩
          go_simp
          with_reducible rfl
        rotate_left
        · simp only [Act.put, List.setIfInBounds_toArray, List.set_cons_zero, List.set_cons_succ]
          rfl
        refine take_ (i := 7) (N := some 42) (v := ?_) (a' := ?_) #[true, true, true, true, true, false, false, true, false, false, false, false, false, false, false, false, false, false, false, false, false, false, false, false, false, false, false, false, false, false, false, false, false, false, false, false, false, false, false, false, false, false, false, false, false, false, false, false, false, false, false, false, false, false, false, false, false, false, false, false, false, false, false, false] rfl rfl (by as_aux_lemma => kernel_rfl) (fun _ _ _ h => h) (Or.inl ⟨by rfl, ?_⟩) hHeld ?_ ?_
        rotate_left
        · rintro w' ⟨s0_, s1_, s2_, s3_, s4_, s5_, s6_, s7_, s8_, s9_, s10_, s11_, s12_, s13_, s14_, s15_, s16_, s17_, s18_, s19_, s20_, s21_, s22_, s23_, s24_, s25_, s26_, s27_, s28_, s29_, s30_, s31_, s32_, s33_, s34_, s35_, s36_, s37_, s38_, s39_, s40_, s41_, s42_, s43_, s44_⟩
          go_simp
          with_reducible rfl
        rotate_left
        · simp only [Act.put, List.setIfInBounds_toArray, List.set_cons_zero, List.set_cons_succ]
          rfl
        refine one_ (i := 5) (N := some 40) #[true, true, true, true, true, true, false, true, false, false, false, false, false, false, false, false, false, false, false, false, false, false, false, false, false, false, false, false, false, false, false, false, false, false, false, false, false, false, false, false, false, false, false, false, false, false, false, false, false, false, false, false, false, false, false, false, false, false, false, false, false, false, false, false] rfl rfl (by as_aux_lemma => kernel_rfl) (by decide) (fun K hK => ?_)
        refine value_ (v := ?_) (w1 := ?_) (by rfl) rfl ?_ ?_
        rotate_left 2
        · go_simp
          first | rfl | (constructor <;> rfl)
        have BL := Blk.new w7 26 #[.bool c0, .int .i64 c1, .bool c2, .int .u64 c3, .int .i64 c4, .int .i64 c5, .bool c6, .int .u64 c7, .int .i64 c8, .bool a0, .int .i64 a1, .bool a2, .int .u64 a3, .int .i64 a4, .int .i64 a5, .bool a6, .int .u64 a7, .int .i64 a8]
        have BA := BA.alloc (.cells #[.bool c0, .int .i64 c1, .bool c2, .int .u64 c3, .int .i64 c4, .int .i64 c5, .bool c6, .int .u64 c7, .int .i64 c8, .bool a0, .int .i64 a1, .bool a2, .int .u64 a3, .int .i64 a4, .int .i64 a5, .bool a6, .int .u64 a7, .int .i64 a8] 26)
        have BB := BB.alloc (.cells #[.bool c0, .int .i64 c1, .bool c2, .int .u64 c3, .int .i64 c4, .int .i64 c5, .bool c6, .int .u64 c7, .int .i64 c8, .bool a0, .int .i64 a1, .bool a2, .int .u64 a3, .int .i64 a4, .int .i64 a5, .bool a6, .int .u64 a7, .int .i64 a8] 26)
        have BC := BC.alloc (.cells #[.bool c0, .int .i64 c1, .bool c2, .int .u64 c3, .int .i64 c4, .int .i64 c5, .bool c6, .int .u64 c7, .int .i64 c8, .bool a0, .int .i64 a1, .bool a2, .int .u64 a3, .int .i64 a4, .int .i64 a5, .bool a6, .int .u64 a7, .int .i64 a8] 26)
        have BM := BM.alloc (.cells #[.bool c0, .int .i64 c1, .bool c2, .int .u64 c3, .int .i64 c4, .int .i64 c5, .bool c6, .int .u64 c7, .int .i64 c8, .bool a0, .int .i64 a1, .bool a2, .int .u64 a3, .int .i64 a4, .int .i64 a5, .bool a6, .int .u64 a7, .int .i64 a8] 26)
        have BH := BH.alloc (.cells #[.bool c0, .int .i64 c1, .bool c2, .int .u64 c3, .int .i64 c4, .int .i64 c5, .bool c6, .int .u64 c7, .int .i64 c8, .bool a0, .int .i64 a1, .bool a2, .int .u64 a3, .int .i64 a4, .int .i64 a5, .bool a6, .int .u64 a7, .int .i64 a8] 26)
        have HB := bl_alloc HB (.cells #[.bool c0, .int .i64 c1, .bool c2, .int .u64 c3, .int .i64 c4, .int .i64 c5, .bool c6, .int .u64 c7, .int .i64 c8, .bool a0, .int .i64 a1, .bool a2, .int .u64 a3, .int .i64 a4, .int .i64 a5, .bool a6, .int .u64 a7, .int .i64 a8] 26)
        refine hK.out _ _ ⟨BA.cell 0, BA.cell 1, BA.cell 2, BA.cell 3, BA.cell 4, BA.cell 5, BA.cell 6, BA.cell 7, BA.cell 8, BB.cell 0, BB.cell 1, BB.cell 2, BB.cell 3, BB.cell 4, BB.cell 5, BB.cell 6, BB.cell 7, BB.cell 8, BC.cell 0, BC.cell 1, BC.cell 2, BC.cell 3, BC.cell 4, BC.cell 5, BC.cell 6, BC.cell 7, BC.cell 8, BM.cell 0, BM.cell 1, BM.cell 2, BM.cell 3, BM.cell 4, BM.cell 5, BM.cell 6, BM.cell 7, BM.cell 8, BH.cell 0, BH.cell 1, BH.cell 2, BH.cell 3, BH.cell 4, BH.cell 5, BH.cell 6, BH.cell 7, BH.cell 8⟩ (fun hHeld => ?_)
        clear hK K
        refine norm_ (a' := ?_) ?_ ?_
        rotate_left
        · show Act.put _ (some 40) _ = _
          simp only [Act.put, List.setIfInBounds_toArray, List.set_cons_zero, List.set_cons_succ]
          rfl
        refine one_ (i := 6) (N := some 41) #[true, true, true, true, true, true, true, true, false, false, false, false, false, false, false, false, false, false, false, false, false, false, false, false, false, false, false, false, false, false, false, false, false, false, false, false, false, false, false, false, false, false, false, false, false, false, false, false, false, false, false, false, false, false, false, false, false, false, false, false, false, false, false, false] rfl rfl (by as_aux_lemma => kernel_rfl) (by decide) (fun K hK => ?_)
        refine goes_ Try.func16 (by kernel_rfl) rfl #[.slice (some ⟨w7.heap.size, 0, none⟩) 2 2] (by rfl) rfl rfl (by simp only [List.map_toArray, List.map_cons, List.map_nil] <;> rfl) ?_
        with_reducible refine (HCA.out _ _ (SlI.lit2 (x := ⟨c0, ⟨c1, c2, c3, c4⟩, ⟨c5, c6, c7, c8⟩⟩) (y := ⟨a0, ⟨a1, a2, a3, a4⟩, ⟨a5, a6, a7, a8⟩⟩) BL BL.lt)).mono ?_
        rintro e w9 ⟨rfl, hb⟩
        refine ⟨_, rfl, ?_⟩
        have BA := BA.call hb
        have BB := BB.call hb
        have BC := BC.call hb
        have BM := BM.call hb
        have BH := BH.call hb
        have HB := bl_trans HB hb
        refine hK.out _ _ ⟨BA.cell 0, BA.cell 1, BA.cell 2, BA.cell 3, BA.cell 4, BA.cell 5, BA.cell 6, BA.cell 7, BA.cell 8, BB.cell 0, BB.cell 1, BB.cell 2, BB.cell 3, BB.cell 4, BB.cell 5, BB.cell 6, BB.cell 7, BB.cell 8, BC.cell 0, BC.cell 1, BC.cell 2, BC.cell 3, BC.cell 4, BC.cell 5, BC.cell 6, BC.cell 7, BC.cell 8, BM.cell 0, BM.cell 1, BM.cell 2, BM.cell 3, BM.cell 4, BM.cell 5, BM.cell 6, BM.cell 7, BM.cell 8, BH.cell 0, BH.cell 1, BH.cell 2, BH.cell 3, BH.cell 4, BH.cell 5, BH.cell 6, BH.cell 7, BH.cell 8⟩ (fun hHeld => ?_)
        clear hK K hb
        refine norm_ (a' := ?_) ?_ ?_
        rotate_left
        · show Act.put _ (some 41) _ = _
          simp only [Act.put, List.setIfInBounds_toArray, List.set_cons_zero, List.set_cons_succ]
          rfl
        refine one_ (i := 8) (N := some 43) #[true, true, true, true, true, true, true, true, true, false, false, false, false, false, false, false, false, false, false, false, false, false, false, false, false, false, false, false, false, false, false, false, false, false, false, false, false, false, false, false, false, false, false, false, false, false, false, false, false, false, false, false, false, false, false, false, false, false, false, false, false, false, false, false] rfl rfl (by as_aux_lemma => kernel_rfl) (by decide) (fun K hK => ?_)
        refine value_ (v := ?_) (w1 := ?_) (by rfl) rfl ?_ ?_
        rotate_left 2
        · go_simp
          first | rfl | (constructor <;> rfl)
        have BL := Blk.new w9 26 #[.bool t0, .int .i64 t1, .bool t2, .int .u64 t3, .int .i64 t4, .int .i64 t5, .bool t6, .int .u64 t7, .int .i64 t8, .bool b0, .int .i64 b1, .bool b2, .int .u64 b3, .int .i64 b4, .int .i64 b5, .bool b6, .int .u64 b7, .int .i64 b8]
        have BA := BA.alloc (.cells #[.bool t0, .int .i64 t1, .bool t2, .int .u64 t3, .int .i64 t4, .int .i64 t5, .bool t6, .int .u64 t7, .int .i64 t8, .bool b0, .int .i64 b1, .bool b2, .int .u64 b3, .int .i64 b4, .int .i64 b5, .bool b6, .int .u64 b7, .int .i64 b8] 26)
        have BB := BB.alloc (.cells #[.bool t0, .int .i64 t1, .bool t2, .int .u64 t3, .int .i64 t4, .int .i64 t5, .bool t6, .int .u64 t7, .int .i64 t8, .bool b0, .int .i64 b1, .bool b2, .int .u64 b3, .int .i64 b4, .int .i64 b5, .bool b6, .int .u64 b7, .int .i64 b8] 26)
        have BC := BC.alloc (.cells #[.bool t0, .int .i64 t1, .bool t2, .int .u64 t3, .int .i64 t4, .int .i64 t5, .bool t6, .int .u64 t7, .int .i64 t8, .bool b0, .int .i64 b1, .bool b2, .int .u64 b3, .int .i64 b4, .int .i64 b5, .bool b6, .int .u64 b7, .int .i64 b8] 26)
        have BM := BM.alloc (.cells #[.bool t0, .int .i64 t1, .bool t2, .int .u64 t3, .int .i64 t4, .int .i64 t5, .bool t6, .int .u64 t7, .int .i64 t8, .bool b0, .int .i64 b1, .bool b2, .int .u64 b3, .int .i64 b4, .int .i64 b5, .bool b6, .int .u64 b7, .int .i64 b8] 26)
        have BH := BH.alloc (.cells #[.bool t0, .int .i64 t1, .bool t2, .int .u64 t3, .int .i64 t4, .int .i64 t5, .bool t6, .int .u64 t7, .int .i64 t8, .bool b0, .int .i64 b1, .bool b2, .int .u64 b3, .int .i64 b4, .int .i64 b5, .bool b6, .int .u64 b7, .int .i64 b8] 26)
        have HB := bl_alloc HB (.cells #[.bool t0, .int .i64 t1, .bool t2, .int .u64 t3, .int .i64 t4, .int .i64 t5, .bool t6, .int .u64 t7, .int .i64 t8, .bool b0, .int .i64 b1, .bool b2, .int .u64 b3, .int .i64 b4, .int .i64 b5, .bool b6, .int .u64 b7, .int .i64 b8] 26)
        refine hK.out _ _ ⟨BA.cell 0, BA.cell 1, BA.cell 2, BA.cell 3, BA.cell 4, BA.cell 5, BA.cell 6, BA.cell 7, BA.cell 8, BB.cell 0, BB.cell 1, BB.cell 2, BB.cell 3, BB.cell 4, BB.cell 5, BB.cell 6, BB.cell 7, BB.cell 8, BC.cell 0, BC.cell 1, BC.cell 2, BC.cell 3, BC.cell 4, BC.cell 5, BC.cell 6, BC.cell 7, BC.cell 8, BM.cell 0, BM.cell 1, BM.cell 2, BM.cell 3, BM.cell 4, BM.cell 5, BM.cell 6, BM.cell 7, BM.cell 8, BH.cell 0, BH.cell 1, BH.cell 2, BH.cell 3, BH.cell 4, BH.cell 5, BH.cell 6, BH.cell 7, BH.cell 8⟩ (fun hHeld => ?_)
        clear hK K
        refine norm_ (a' := ?_) ?_ ?_
        rotate_left
        · show Act.put _ (some 43) _ = _
          simp only [Act.put, List.setIfInBounds_toArray, List.set_cons_zero, List.set_cons_succ]
          rfl
        refine one_ (i := 9) (N := some 44) #[true, true, true, true, true, true, true, true, true, true, false, false, false, false, false, false, false, false, false, false, false, false, false, false, false, false, false, false, false, false, false, false, false, false, false, false, false, false, false, false, false, false, false, false, false, false, false, false, false, false, false, false, false, false, false, false, false, false, false, false, false, false, false, false] rfl rfl (by as_aux_lemma => kernel_rfl) (by decide) (fun K hK => ?_)
        refine goes_ Try.func16 (by kernel_rfl) rfl #[.slice (some ⟨w9.heap.size, 0, none⟩) 2 2] (by rfl) rfl rfl (by simp only [List.map_toArray, List.map_cons, List.map_nil] <;> rfl) ?_
        with_reducible refine (HTB.out _ _ (SlI.lit2 (x := ⟨t0, ⟨t1, t2, t3, t4⟩, ⟨t5, t6, t7, t8⟩⟩) (y := ⟨b0, ⟨b1, b2, b3, b4⟩, ⟨b5, b6, b7, b8⟩⟩) BL BL.lt)).mono ?_
        rintro e w10 ⟨rfl, hb⟩
        refine ⟨_, rfl, ?_⟩
        have BA := BA.call hb
        have BB := BB.call hb
        have BC := BC.call hb
        have BM := BM.call hb
        have BH := BH.call hb
        have HB := bl_trans HB hb
        refine hK.out _ _ ⟨BA.cell 0, BA.cell 1, BA.cell 2, BA.cell 3, BA.cell 4, BA.cell 5, BA.cell 6, BA.cell 7, BA.cell 8, BB.cell 0, BB.cell 1, BB.cell 2, BB.cell 3, BB.cell 4, BB.cell 5, BB.cell 6, BB.cell 7, BB.cell 8, BC.cell 0, BC.cell 1, BC.cell 2, BC.cell 3, BC.cell 4, BC.cell 5, BC.cell 6, BC.cell 7, BC.cell 8, BM.cell 0, BM.cell 1, BM.cell 2, BM.cell 3, BM.cell 4, BM.cell 5, BM.cell 6, BM.cell 7, BM.cell 8, BH.cell 0, BH.cell 1, BH.cell 2, BH.cell 3, BH.cell 4, BH.cell 5, BH.cell 6, BH.cell 7, BH.cell 8⟩ (fun hHeld => ?_)
        clear hK K hb
        refine norm_ (a' := ?_) ?_ ?_
        rotate_left
        · show Act.put _ (some 44) _ = _
          simp only [Act.put, List.setIfInBounds_toArray, List.set_cons_zero, List.set_cons_succ]
          rfl
        refine pure_ (i := 10) (N := some 45) (v := ?_) (a' := ?_) #[true, true, true, true, true, true, true, true, true, true, true, false, false, false, false, false, false, false, false, false, false, false, false, false, false, false, false, false, false, false, false, false, false, false, false, false, false, false, false, false, false, false, false, false, false, false, false, false, false, false, false, false, false, false, false, false, false, false, false, false, false, false, false, false] rfl rfl (by as_aux_lemma => kernel_rfl) (fun _ _ _ h => h) (Or.inl ⟨by rfl, ?_⟩) ?_ ?_
        rotate_left
        · intro w'
          go_simp
          with_reducible rfl
        rotate_left
        · simp only [Act.put, List.setIfInBounds_toArray, List.set_cons_zero, List.set_cons_succ]
          rfl
        refine pure_ (i := 11) (N := some 46) (v := ?_) (a' := ?_) #[true, true, true, true, true, true, true, true, true, true, true, true, false, false, false, false, false, false, false, false, false, false, false, false, false, false, false, false, false, false, false, false, false, false, false, false, false, false, false, false, false, false, false, false, false, false, false, false, false, false, false, false, false, false, false, false, false, false, false, false, false, false, false, false] rfl rfl (by as_aux_lemma => kernel_rfl) (fun _ _ _ h => h) (Or.inl ⟨by rfl, ?_⟩) ?_ ?_
        rotate_left
        · intro w'
          go_simp
          with_reducible rfl
        rotate_left
        · simp only [Act.put, List.setIfInBounds_toArray, List.set_cons_zero, List.set_cons_succ]
          rfl
        refine pure_ (i := 12) (N := some 47) (v := ?_) (a' := ?_) #[true, true, true, true, true, true, true, true, true, true, true, true, true, false, false, false, false, false, false, false, false, false, false, false, false, false, false, false, false, false, false, false, false, false, false, false, false, false, false, false, false, false, false, false, false, false, false, false, false, false, false, false, false, false, false, false, false, false, false, false, false, false, false, false] rfl rfl (by as_aux_lemma => kernel_rfl) (fun _ _ _ h => h) (Or.inl ⟨by rfl, ?_⟩) ?_ ?_
        rotate_left
        · intro w'
          go_simp
          with_reducible rfl
        rotate_left
        · simp only [Act.put, List.setIfInBounds_toArray, List.set_cons_zero, List.set_cons_succ]
          rfl
        refine take_ (i := 13) (N := some 48) (v := ?_) (a' := ?_) #[true, true, true, true, true, true, true, true, true, true, true, true, true, true, false, false, false, false, false, false, false, false, false, false, false, false, false, false, false, false, false, false, false, false, false, false, false, false, false, false, false, false, false, false, false, false, false, false, false, false, false, false, false, false, false, false, false, false, false, false, false, false, false, false] rfl rfl (by as_aux_lemma => kernel_rfl) (fun _ _ _ h => h) (Or.inl ⟨by rfl, ?_⟩) hHeld ?_ ?_
        rotate_left
        · rintro w' ⟨s0_, s1_, s2_, s3_, s4_, s5_, s6_, s7_, s8_, s9_, s10_, s11_, s12_, s13_, s14_, s15_, s16_, s17_, s18_, s19_, s20_, s21_, s22_, s23_, s24_, s25_, s26_, s27_, s28_, s29_, s30_, s31_, s32_, s33_, s34_, s35_, s36_, s37_, s38_, s39_, s40_, s41_, s42_, s43_, s44_⟩
          go_simp
          with_reducible rfl
        rotate_left
        · simp only [Act.put, List.setIfInBounds_toArray, List.set_cons_zero, List.set_cons_succ]
          rfl
        refine take_ (i := 14) (N := some 49) (v := ?_) (a' := ?_) #[true, true, true, true, true, true, true, true, true, true, true, true, true, true, true, false, false, false, false, false, false, false, false, false, false, false, false, false, false, false, false, false, false, false, false, false, false, false, false, false, false, false, false, false, false, false, false, false, false, false, false, false, false, false, false, false, false, false, false, false, false, false, false, false] rfl rfl (by as_aux_lemma => kernel_rfl) (fun _ _ _ h => h) (Or.inl ⟨by rfl, ?_⟩) hHeld ?_ ?_
        rotate_left
        · rintro w' ⟨s0_, s1_, s2_, s3_, s4_, s5_, s6_, s7_, s8_, s9_, s10_, s11_, s12_, s13_, s14_, s15_, s16_, s17_, s18_, s19_, s20_, s21_, s22_, s23_, s24_, s25_, s26_, s27_, s28_, s29_, s30_, s31_, s32_, s33_, s34_, s35_, s36_, s37_, s38_, s39_, s40_, s41_, s42_, s43_, s44_⟩
          go_simp
          with_reducible rfl
        rotate_left
        · simp only [Act.put, List.setIfInBounds_toArray, List.set_cons_zero, List.set_cons_succ]
          rfl
        refine take_ (i := 15) (N := some 50) (v := ?_) (a' := ?_) #[true, true, true, true, true, true, true, true, true, true, true, true, true, true, true, true, false, false, false, false, false, false, false, false, false, false, false, false, false, false, false, false, false, false, false, false, false, false, false, false, false, false, false, false, false, false, false, false, false, false, false, false, false, false, false, false, false, false, false, false, false, false, false, false] rfl rfl (by as_aux_lemma => kernel_rfl) (fun _ _ _ h => h) (Or.inl ⟨by rfl, ?_⟩) hHeld ?_ ?_
        rotate_left
        · rintro w' ⟨s0_, s1_, s2_, s3_, s4_, s5_, s6_, s7_, s8_, s9_, s10_, s11_, s12_, s13_, s14_, s15_, s16_, s17_, s18_, s19_, s20_, s21_, s22_, s23_, s24_, s25_, s26_, s27_, s28_, s29_, s30_, s31_, s32_, s33_, s34_, s35_, s36_, s37_, s38_, s39_, s40_, s41_, s42_, s43_, s44_⟩
          go_simp
          with_reducible rfl
        rotate_left
        · simp only [Act.put, List.setIfInBounds_toArray, List.set_cons_zero, List.set_cons_succ]
          rfl
        refine take_ (i := 16) (N := some 51) (v := ?_) (a' := ?_) #[true, true, true, true, true, true, true, true, true, true, true, true, true, true, true, true, true, false, false, false, false, false, false, false, false, false, false, false, false, false, false, false, false, false, false, false, false, false, false, false, false, false, false, false, false, false, false, false, false, false, false, false, false, false, false, false, false, false, false, false, false, false, false, false] rfl rfl (by as_aux_lemma => kernel_rfl) (fun _ _ _ h => h) (Or.inl ⟨by rfl, ?_⟩) hHeld ?_ ?_
        rotate_left
        · rintro w' ⟨s0_, s1_, s2_, s3_, s4_, s5_, s6_, s7_, s8_, s9_, s10_, s11_, s12_, s13_, s14_, s15_, s16_, s17_, s18_, s19_, s20_, s21_, s22_, s23_, s24_, s25_, s26_, s27_, s28_, s29_, s30_, s31_, s32_, s33_, s34_, s35_, s36_, s37_, s38_, s39_, s40_, s41_, s42_, s43_, s44_⟩
          go_simp
          with_reducible rfl
        rotate_left
        · simp only [Act.put, List.setIfInBounds_toArray, List.set_cons_zero, List.set_cons_succ]
          rfl
        refine one_ (i := 17) (N := some 52) #[true, true, true, true, true, true, true, true, true, true, true, true, true, true, true, true, true, true, false, false, false, false, false, false, false, false, false, false, false, false, false, false, false, false, false, false, false, false, false, false, false, false, false, false, false, false, false, false, false, false, false, false, false, false, false, false, false, false, false, false, false, false, false, false] rfl rfl (by as_aux_lemma => kernel_rfl) (by decide) (fun K hK => ?_)
        refine value_ (v := ?_) (w1 := ?_) (by rfl) rfl ?_ ?_
        rotate_left 2
        · go_simp
          first | rfl | (constructor <;> rfl)
        have BL := Blk.new w10 26 #[.bool a0, .int .i64 a1, .bool a2, .int .u64 a3, .int .i64 a4, .int .i64 a5, .bool a6, .int .u64 a7, .int .i64 a8, .bool c0, .int .i64 c1, .bool c2, .int .u64 c3, .int .i64 c4, .int .i64 c5, .bool c6, .int .u64 c7, .int .i64 c8]
        have BA := BA.alloc (.cells #[.bool a0, .int .i64 a1, .bool a2, .int .u64 a3, .int .i64 a4, .int .i64 a5, .bool a6, .int .u64 a7, .int .i64 a8, .bool c0, .int .i64 c1, .bool c2, .int .u64 c3, .int .i64 c4, .int .i64 c5, .bool c6, .int .u64 c7, .int .i64 c8] 26)
        have BB := BB.alloc (.cells #[.bool a0, .int .i64 a1, .bool a2, .int .u64 a3, .int .i64 a4, .int .i64 a5, .bool a6, .int .u64 a7, .int .i64 a8, .bool c0, .int .i64 c1, .bool c2, .int .u64 c3, .int .i64 c4, .int .i64 c5, .bool c6, .int .u64 c7, .int .i64 c8] 26)
        have BC := BC.alloc (.cells #[.bool a0, .int .i64 a1, .bool a2, .int .u64 a3, .int .i64 a4, .int .i64 a5, .bool a6, .int .u64 a7, .int .i64 a8, .bool c0, .int .i64 c1, .bool c2, .int .u64 c3, .int .i64 c4, .int .i64 c5, .bool c6, .int .u64 c7, .int .i64 c8] 26)
        have BM := BM.alloc (.cells #[.bool a0, .int .i64 a1, .bool a2, .int .u64 a3, .int .i64 a4, .int .i64 a5, .bool a6, .int .u64 a7, .int .i64 a8, .bool c0, .int .i64 c1, .bool c2, .int .u64 c3, .int .i64 c4, .int .i64 c5, .bool c6, .int .u64 c7, .int .i64 c8] 26)
        have BH := BH.alloc (.cells #[.bool a0, .int .i64 a1, .bool a2, .int .u64 a3, .int .i64 a4, .int .i64 a5, .bool a6, .int .u64 a7, .int .i64 a8, .bool c0, .int .i64 c1, .bool c2, .int .u64 c3, .int .i64 c4, .int .i64 c5, .bool c6, .int .u64 c7, .int .i64 c8] 26)
        have HB := bl_alloc HB (.cells #[.bool a0, .int .i64 a1, .bool a2, .int .u64 a3, .int .i64 a4, .int .i64 a5, .bool a6, .int .u64 a7, .int .i64 a8, .bool c0, .int .i64 c1, .bool c2, .int .u64 c3, .int .i64 c4, .int .i64 c5, .bool c6, .int .u64 c7, .int .i64 c8] 26)
        refine hK.out _ _ ⟨BA.cell 0, BA.cell 1, BA.cell 2, BA.cell 3, BA.cell 4, BA.cell 5, BA.cell 6, BA.cell 7, BA.cell 8, BB.cell 0, BB.cell 1, BB.cell 2, BB.cell 3, BB.cell 4, BB.cell 5, BB.cell 6, BB.cell 7, BB.cell 8, BC.cell 0, BC.cell 1, BC.cell 2, BC.cell 3, BC.cell 4, BC.cell 5, BC.cell 6, BC.cell 7, BC.cell 8, BM.cell 0, BM.cell 1, BM.cell 2, BM.cell 3, BM.cell 4, BM.cell 5, BM.cell 6, BM.cell 7, BM.cell 8, BH.cell 0, BH.cell 1, BH.cell 2, BH.cell 3, BH.cell 4, BH.cell 5, BH.cell 6, BH.cell 7, BH.cell 8⟩ (fun hHeld => ?_)
        clear hK K
        refine norm_ (a' := ?_) ?_ ?_
        rotate_left
        · show Act.put _ (some 52) _ = _
          simp only [Act.put, List.setIfInBounds_toArray, List.set_cons_zero, List.set_cons_succ]
          rfl
        refine one_ (i := 18) (N := some 53) #[true, true, true, true, true, true, true, true, true, true, true, true, true, true, true, true, true, true, true, false, false, false, false, false, false, false, false, false, false, false, false, false, false, false, false, false, false, false, false, false, false, false, false, false, false, false, false, false, false, false, false, false, false, false, false, false, false, false, false, false, false, false, false, false] rfl rfl (by as_aux_lemma => kernel_rfl) (by decide) (fun K hK => ?_)
        refine goes_ Try.func17 (by kernel_rfl) rfl #[.slice (some ⟨w10.heap.size, 0, none⟩) 2 2] (by rfl) rfl rfl (by simp only [List.map_toArray, List.map_cons, List.map_nil] <;> rfl) ?_
        with_reducible refine (HAC.out _ _ (SlI.lit2 (x := ⟨a0, ⟨a1, a2, a3, a4⟩, ⟨a5, a6, a7, a8⟩⟩) (y := ⟨c0, ⟨c1, c2, c3, c4⟩, ⟨c5, c6, c7, c8⟩⟩) BL BL.lt)).mono ?_
        rintro e w11 ⟨rfl, hb⟩
        refine ⟨_, rfl, ?_⟩
        have BA := BA.call hb
        have BB := BB.call hb
        have BC := BC.call hb
        have BM := BM.call hb
        have BH := BH.call hb
        have HB := bl_trans HB hb
        refine hK.out _ _ ⟨BA.cell 0, BA.cell 1, BA.cell 2, BA.cell 3, BA.cell 4, BA.cell 5, BA.cell 6, BA.cell 7, BA.cell 8, BB.cell 0, BB.cell 1, BB.cell 2, BB.cell 3, BB.cell 4, BB.cell 5, BB.cell 6, BB.cell 7, BB.cell 8, BC.cell 0, BC.cell 1, BC.cell 2, BC.cell 3, BC.cell 4, BC.cell 5, BC.cell 6, BC.cell 7, BC.cell 8, BM.cell 0, BM.cell 1, BM.cell 2, BM.cell 3, BM.cell 4, BM.cell 5, BM.cell 6, BM.cell 7, BM.cell 8, BH.cell 0, BH.cell 1, BH.cell 2, BH.cell 3, BH.cell 4, BH.cell 5, BH.cell 6, BH.cell 7, BH.cell 8⟩ (fun hHeld => ?_)
        clear hK K hb
        refine norm_ (a' := ?_) ?_ ?_
        rotate_left
        · show Act.put _ (some 53) _ = _
          simp only [Act.put, List.setIfInBounds_toArray, List.set_cons_zero, List.set_cons_succ]
          rfl
        refine one_ (i := 19) (N := some 54) #[true, true, true, true, true, true, true, true, true, true, true, true, true, true, true, true, true, true, true, true, false, false, false, false, false, false, false, false, false, false, false, false, false, false, false, false, false, false, false, false, false, false, false, false, false, false, false, false, false, false, false, false, false, false, false, false, false, false, false, false, false, false, false, false] rfl rfl (by as_aux_lemma => kernel_rfl) (by decide) (fun K hK => ?_)
        refine value_ (v := ?_) (w1 := ?_) (by rfl) rfl ?_ ?_
        rotate_left 2
        · go_simp
          first | rfl | (constructor <;> rfl)
        have BL := Blk.new w11 26 #[.bool b0, .int .i64 b1, .bool b2, .int .u64 b3, .int .i64 b4, .int .i64 b5, .bool b6, .int .u64 b7, .int .i64 b8, .bool s0, .int .i64 s1, .bool s2, .int .u64 s3, .int .i64 s4, .int .i64 s5, .bool s6, .int .u64 s7, .int .i64 s8]
        have BA := BA.alloc (.cells #[.bool b0, .int .i64 b1, .bool b2, .int .u64 b3, .int .i64 b4, .int .i64 b5, .bool b6, .int .u64 b7, .int .i64 b8, .bool s0, .int .i64 s1, .bool s2, .int .u64 s3, .int .i64 s4, .int .i64 s5, .bool s6, .int .u64 s7, .int .i64 s8] 26)
        have BB := BB.alloc (.cells #[.bool b0, .int .i64 b1, .bool b2, .int .u64 b3, .int .i64 b4, .int .i64 b5, .bool b6, .int .u64 b7, .int .i64 b8, .bool s0, .int .i64 s1, .bool s2, .int .u64 s3, .int .i64 s4, .int .i64 s5, .bool s6, .int .u64 s7, .int .i64 s8] 26)
        have BC := BC.alloc (.cells #[.bool b0, .int .i64 b1, .bool b2, .int .u64 b3, .int .i64 b4, .int .i64 b5, .bool b6, .int .u64 b7, .int .i64 b8, .bool s0, .int .i64 s1, .bool s2, .int .u64 s3, .int .i64 s4, .int .i64 s5, .bool s6, .int .u64 s7, .int .i64 s8] 26)
        have BM := BM.alloc (.cells #[.bool b0, .int .i64 b1, .bool b2, .int .u64 b3, .int .i64 b4, .int .i64 b5, .bool b6, .int .u64 b7, .int .i64 b8, .bool s0, .int .i64 s1, .bool s2, .int .u64 s3, .int .i64 s4, .int .i64 s5, .bool s6, .int .u64 s7, .int .i64 s8] 26)
        have BH := BH.alloc (.cells #[.bool b0, .int .i64 b1, .bool b2, .int .u64 b3, .int .i64 b4, .int .i64 b5, .bool b6, .int .u64 b7, .int .i64 b8, .bool s0, .int .i64 s1, .bool s2, .int .u64 s3, .int .i64 s4, .int .i64 s5, .bool s6, .int .u64 s7, .int .i64 s8] 26)
        have HB := bl_alloc HB (.cells #[.bool b0, .int .i64 b1, .bool b2, .int .u64 b3, .int .i64 b4, .int .i64 b5, .bool b6, .int .u64 b7, .int .i64 b8, .bool s0, .int .i64 s1, .bool s2, .int .u64 s3, .int .i64 s4, .int .i64 s5, .bool s6, .int .u64 s7, .int .i64 s8] 26)
        refine hK.out _ _ ⟨BA.cell 0, BA.cell 1, BA.cell 2, BA.cell 3, BA.cell 4, BA.cell 5, BA.cell 6, BA.cell 7, BA.cell 8, BB.cell 0, BB.cell 1, BB.cell 2, BB.cell 3, BB.cell 4, BB.cell 5, BB.cell 6, BB.cell 7, BB.cell 8, BC.cell 0, BC.cell 1, BC.cell 2, BC.cell 3, BC.cell 4, BC.cell 5, BC.cell 6, BC.cell 7, BC.cell 8, BM.cell 0, BM.cell 1, BM.cell 2, BM.cell 3, BM.cell 4, BM.cell 5, BM.cell 6, BM.cell 7, BM.cell 8, BH.cell 0, BH.cell 1, BH.cell 2, BH.cell 3, BH.cell 4, BH.cell 5, BH.cell 6, BH.cell 7, BH.cell 8⟩ (fun hHeld => ?_)
        clear hK K
        refine norm_ (a' := ?_) ?_ ?_
        rotate_left
        · show Act.put _ (some 54) _ = _
          simp only [Act.put, List.setIfInBounds_toArray, List.set_cons_zero, List.set_cons_succ]
          rfl
        refine one_ (i := 20) (N := some 55) #[true, true, true, true, true, true, true, true, true, true, true, true, true, true, true, true, true, true, true, true, true, false, false, false, false, false, false, false, false, false, false, false, false, false, false, false, false, false, false, false, false, false, false, false, false, false, false, false, false, false, false, false, false, false, false, false, false, false, false, false, false, false, false, false] rfl rfl (by as_aux_lemma => kernel_rfl) (by decide) (fun K hK => ?_)
        refine goes_ Try.func17 (by kernel_rfl) rfl #[.slice (some ⟨w11.heap.size, 0, none⟩) 2 2] (by rfl) rfl rfl (by simp only [List.map_toArray, List.map_cons, List.map_nil] <;> rfl) ?_
        with_reducible refine (HBS.out _ _ (SlI.lit2 (x := ⟨b0, ⟨b1, b2, b3, b4⟩, ⟨b5, b6, b7, b8⟩⟩) (y := ⟨s0, ⟨s1, s2, s3, s4⟩, ⟨s5, s6, s7, s8⟩⟩) BL BL.lt)).mono ?_
        rintro e w12 ⟨rfl, hb⟩
        refine ⟨_, rfl, ?_⟩
        have BA := BA.call hb
        have BB := BB.call hb
        have BC := BC.call hb
        have BM := BM.call hb
        have BH := BH.call hb
        have HB := bl_trans HB hb
        refine hK.out _ _ ⟨BA.cell 0, BA.cell 1, BA.cell 2, BA.cell 3, BA.cell 4, BA.cell 5, BA.cell 6, BA.cell 7, BA.cell 8, BB.cell 0, BB.cell 1, BB.cell 2, BB.cell 3, BB.cell 4, BB.cell 5, BB.cell 6, BB.cell 7, BB.cell 8, BC.cell 0, BC.cell 1, BC.cell 2, BC.cell 3, BC.cell 4, BC.cell 5, BC.cell 6, BC.cell 7, BC.cell 8, BM.cell 0, BM.cell 1, BM.cell 2, BM.cell 3, BM.cell 4, BM.cell 5, BM.cell 6, BM.cell 7, BM.cell 8, BH.cell 0, BH.cell 1, BH.cell 2, BH.cell 3, BH.cell 4, BH.cell 5, BH.cell 6, BH.cell 7, BH.cell 8⟩ (fun hHeld => ?_)
        clear hK K hb
        refine norm_ (a' := ?_) ?_ ?_
        rotate_left
        · show Act.put _ (some 55) _ = _
          simp only [Act.put, List.setIfInBounds_toArray, List.set_cons_zero, List.set_cons_succ]
          rfl
        refine pure_ (i := 21) (N := some 56) (v := ?_) (a' := ?_) #[true, true, true, true, true, true, true, true, true, true, true, true, true, true, true, true, true, true, true, true, true, true, false, false, false, false, false, false, false, false, false, false, false, false, false, false, false, false, false, false, false, false, false, false, false, false, false, false, false, false, false, false, false, false, false, false, false, false, false, false, false, false, false, false] rfl rfl (by as_aux_lemma => kernel_rfl) (fun _ _ _ h => h) (Or.inl ⟨by rfl, ?_⟩) ?_ ?_
        rotate_left
        · intro w'
          go_simp
          with_reducible rfl
        rotate_left
        · simp only [Act.put, List.setIfInBounds_toArray, List.set_cons_zero, List.set_cons_succ]
          rfl
        refine pure_ (i := 22) (N := some 57) (v := ?_) (a' := ?_) #[true, true, true, true, true, true, true, true, true, true, true, true, true, true, true, true, true, true, true, true, true, true, true, false, false, false, false, false, false, false, false, false, false, false, false, false, false, false, false, false, false, false, false, false, false, false, false, false, false, false, false, false, false, false, false, false, false, false, false, false, false, false, false, false] rfl rfl (by as_aux_lemma => kernel_rfl) (fun _ _ _ h => h) (Or.inl ⟨by rfl, ?_⟩) ?_ ?_
        rotate_left
        · intro w'
          go_simp
          with_reducible rfl
        rotate_left
        · simp only [Act.put, List.setIfInBounds_toArray, List.set_cons_zero, List.set_cons_succ]
          rfl
        refine pure_ (i := 23) (N := some 58) (v := ?_) (a' := ?_) #[true, true, true, true, true, true, true, true, true, true, true, true, true, true, true, true, true, true, true, true, true, true, true, true, false, false, false, false, false, false, false, false, false, false, false, false, false, false, false, false, false, false, false, false, false, false, false, false, false, false, false, false, false, false, false, false, false, false, false, false, false, false, false, false] rfl rfl (by as_aux_lemma => kernel_rfl) (fun _ _ _ h => h) (Or.inl ⟨by rfl, ?_⟩) ?_ ?_
        rotate_left
        · intro w'
          go_simp
          with_reducible rfl
        rotate_left
        · simp only [Act.put, List.setIfInBounds_toArray, List.set_cons_zero, List.set_cons_succ]
          rfl
        refine take_ (i := 24) (N := some 59) (v := ?_) (a' := ?_) #[true, true, true, true, true, true, true, true, true, true, true, true, true, true, true, true, true, true, true, true, true, true, true, true, true, false, false, false, false, false, false, false, false, false, false, false, false, false, false, false, false, false, false, false, false, false, false, false, false, false, false, false, false, false, false, false, false, false, false, false, false, false, false, false] rfl rfl (by as_aux_lemma => kernel_rfl) (fun _ _ _ h => h) (Or.inl ⟨by rfl, ?_⟩) hHeld ?_ ?_
        rotate_left
        · rintro w' ⟨s0_, s1_, s2_, s3_, s4_, s5_, s6_, s7_, s8_, s9_, s10_, s11_, s12_, s13_, s14_, s15_, s16_, s17_, s18_, s19_, s20_, s21_, s22_, s23_, s24_, s25_, s26_, s27_, s28_, s29_, s30_, s31_, s32_, s33_, s34_, s35_, s36_, s37_, s38_, s39_, s40_, s41_, s42_, s43_, s44_⟩
          go_simp
          with_reducible rfl
        rotate_left
        · simp only [Act.put, List.setIfInBounds_toArray, List.set_cons_zero, List.set_cons_succ]
          rfl
        refine take_ (i := 27) (N := some 62) (v := ?_) (a' := ?_) #[true, true, true, true, true, true, true, true, true, true, true, true, true, true, true, true, true, true, true, true, true, true, true, true, true, false, false, true, false, false, false, false, false, false, false, false, false, false, false, false, false, false, false, false, false, false, false, false, false, false, false, false, false, false, false, false, false, false, false, false, false, false, false, false] rfl rfl (by as_aux_lemma => kernel_rfl) (fun _ _ _ h => h) (Or.inl ⟨by rfl, ?_⟩) hHeld ?_ ?_
        rotate_left
        · rintro w' ⟨s0_, s1_, s2_, s3_, s4_, s5_, s6_, s7_, s8_, s9_, s10_, s11_, s12_, s13_, s14_, s15_, s16_, s17_, s18_, s19_, s20_, s21_, s22_, s23_, s24_, s25_, s26_, s27_, s28_, s29_, s30_, s31_, s32_, s33_, s34_, s35_, s36_, s37_, s38_, s39_, s40_, s41_, s42_, s43_, s44_⟩
          go_simp
          with_reducible rfl
        rotate_left
        · simp only [Act.put, List.setIfInBounds_toArray, List.set_cons_zero, List.set_cons_succ]
          rfl
        refine one_ (i := 25) (N := some 60) #[true, true, true, true, true, true, true, true, true, true, true, true, true, true, true, true, true, true, true, true, true, true, true, true, true, true, false, true, false, false, false, false, false, false, false, false, false, false, false, false, false, false, false, false, false, false, false, false, false, false, false, false, false, false, false, false, false, false, false, false, false, false, false, false] rfl rfl (by as_aux_lemma => kernel_rfl) (by decide) (fun K hK => ?_)
        refine value_ (v := ?_) (w1 := ?_) (by rfl) rfl ?_ ?_
        rotate_left 2
        · go_simp
          first | rfl | (constructor <;> rfl)
        have BL := Blk.new w12 26 #[.bool a0, .int .i64 a1, .bool a2, .int .u64 a3, .int .i64 a4, .int .i64 a5, .bool a6, .int .u64 a7, .int .i64 a8]
        have BA := BA.alloc (.cells #[.bool a0, .int .i64 a1, .bool a2, .int .u64 a3, .int .i64 a4, .int .i64 a5, .bool a6, .int .u64 a7, .int .i64 a8] 26)
        have BB := BB.alloc (.cells #[.bool a0, .int .i64 a1, .bool a2, .int .u64 a3, .int .i64 a4, .int .i64 a5, .bool a6, .int .u64 a7, .int .i64 a8] 26)
        have BC := BC.alloc (.cells #[.bool a0, .int .i64 a1, .bool a2, .int .u64 a3, .int .i64 a4, .int .i64 a5, .bool a6, .int .u64 a7, .int .i64 a8] 26)
        have BM := BM.alloc (.cells #[.bool a0, .int .i64 a1, .bool a2, .int .u64 a3, .int .i64 a4, .int .i64 a5, .bool a6, .int .u64 a7, .int .i64 a8] 26)
        have BH := BH.alloc (.cells #[.bool a0, .int .i64 a1, .bool a2, .int .u64 a3, .int .i64 a4, .int .i64 a5, .bool a6, .int .u64 a7, .int .i64 a8] 26)
        have HB := bl_alloc HB (.cells #[.bool a0, .int .i64 a1, .bool a2, .int .u64 a3, .int .i64 a4, .int .i64 a5, .bool a6, .int .u64 a7, .int .i64 a8] 26)
        refine hK.out _ _ ⟨BA.cell 0, BA.cell 1, BA.cell 2, BA.cell 3, BA.cell 4, BA.cell 5, BA.cell 6, BA.cell 7, BA.cell 8, BB.cell 0, BB.cell 1, BB.cell 2, BB.cell 3, BB.cell 4, BB.cell 5, BB.cell 6, BB.cell 7, BB.cell 8, BC.cell 0, BC.cell 1, BC.cell 2, BC.cell 3, BC.cell 4, BC.cell 5, BC.cell 6, BC.cell 7, BC.cell 8, BM.cell 0, BM.cell 1, BM.cell 2, BM.cell 3, BM.cell 4, BM.cell 5, BM.cell 6, BM.cell 7, BM.cell 8, BH.cell 0, BH.cell 1, BH.cell 2, BH.cell 3, BH.cell 4, BH.cell 5, BH.cell 6, BH.cell 7, BH.cell 8⟩ (fun hHeld => ?_)
        clear hK K
        refine norm_ (a' := ?_) ?_ ?_
        rotate_left
        · show Act.put _ (some 60) _ = _
          simp only [Act.put, List.setIfInBounds_toArray, List.set_cons_zero, List.set_cons_succ]
          rfl
        refine one_ (i := 26) (N := some 61) #[true, true, true, true, true, true, true, true, true, true, true, true, true, true, true, true, true, true, true, true, true, true, true, true, true, true, true, true, false, false, false, false, false, false, false, false, false, false, false, false, false, false, false, false, false, false, false, false, false, false, false, false, false, false, false, false, false, false, false, false, false, false, false, false] rfl rfl (by as_aux_lemma => kernel_rfl) (by decide) (fun K hK => ?_)
        refine goes_ Try.func16 (by kernel_rfl) rfl #[.slice (some ⟨w12.heap.size, 0, none⟩) 1 1] (by rfl) rfl rfl (by simp only [List.map_toArray, List.map_cons, List.map_nil] <;> rfl) ?_
        with_reducible refine (HA1.out _ _ (SlI.lit1 (x := ⟨a0, ⟨a1, a2, a3, a4⟩, ⟨a5, a6, a7, a8⟩⟩) BL BL.lt)).mono ?_
        rintro e w13 ⟨rfl, hb⟩
        refine ⟨_, rfl, ?_⟩
        have BA := BA.call hb
        have BB := BB.call hb
        have BC := BC.call hb
        have BM := BM.call hb
        have BH := BH.call hb
        have HB := bl_trans HB hb
        refine hK.out _ _ ⟨BA.cell 0, BA.cell 1, BA.cell 2, BA.cell 3, BA.cell 4, BA.cell 5, BA.cell 6, BA.cell 7, BA.cell 8, BB.cell 0, BB.cell 1, BB.cell 2, BB.cell 3, BB.cell 4, BB.cell 5, BB.cell 6, BB.cell 7, BB.cell 8, BC.cell 0, BC.cell 1, BC.cell 2, BC.cell 3, BC.cell 4, BC.cell 5, BC.cell 6, BC.cell 7, BC.cell 8, BM.cell 0, BM.cell 1, BM.cell 2, BM.cell 3, BM.cell 4, BM.cell 5, BM.cell 6, BM.cell 7, BM.cell 8, BH.cell 0, BH.cell 1, BH.cell 2, BH.cell 3, BH.cell 4, BH.cell 5, BH.cell 6, BH.cell 7, BH.cell 8⟩ (fun hHeld => ?_)
        clear hK K hb
        refine norm_ (a' := ?_) ?_ ?_
        rotate_left
        · show Act.put _ (some 61) _ = _
          simp only [Act.put, List.setIfInBounds_toArray, List.set_cons_zero, List.set_cons_succ]
          rfl
        refine pure_ (i := 28) (N := some 63) (v := ?_) (a' := ?_) #[true, true, true, true, true, true, true, true, true, true, true, true, true, true, true, true, true, true, true, true, true, true, true, true, true, true, true, true, true, false, false, false, false, false, false, false, false, false, false, false, false, false, false, false, false, false, false, false, false, false, false, false, false, false, false, false, false, false, false, false, false, false, false, false] rfl rfl (by as_aux_lemma => kernel_rfl) (fun _ _ _ h => h) (Or.inl ⟨by rfl, ?_⟩) ?_ ?_
        rotate_left
        · intro w'
          go_simp
          with_reducible rfl
        rotate_left
        · simp only [Act.put, List.setIfInBounds_toArray, List.set_cons_zero, List.set_cons_succ]
          rfl
        refine pure_ (i := 29) (N := some 64) (v := ?_) (a' := ?_) #[true, true, true, true, true, true, true, true, true, true, true, true, true, true, true, true, true, true, true, true, true, true, true, true, true, true, true, true, true, true, false, false, false, false, false, false, false, false, false, false, false, false, false, false, false, false, false, false, false, false, false, false, false, false, false, false, false, false, false, false, false, false, false, false] rfl rfl (by as_aux_lemma => kernel_rfl) (fun _ _ _ h => h) (Or.inl ⟨by rfl, ?_⟩) ?_ ?_
        rotate_left
        · intro w'
          go_simp
          with_reducible rfl
        rotate_left
        · simp only [Act.put, List.setIfInBounds_toArray, List.set_cons_zero, List.set_cons_succ]
          rfl
        refine pure_ (i := 30) (N := some 65) (v := ?_) (a' := ?_) #[true, true, true, true, true, true, true, true, true, true, true, true, true, true, true, true, true, true, true, true, true, true, true, true, true, true, true, true, true, true, true, false, false, false, false, false, false, false, false, false, false, false, false, false, false, false, false, false, false, false, false, false, false, false, false, false, false, false, false, false, false, false, false, false] rfl rfl (by as_aux_lemma => kernel_rfl) (fun _ _ _ h => h) (Or.inl ⟨by rfl, ?_⟩) ?_ ?_
        rotate_left
        · intro w'
          go_simp
          with_reducible rfl
        rotate_left
        · simp only [Act.put, List.setIfInBounds_toArray, List.set_cons_zero, List.set_cons_succ]
          rfl
        refine take_ (i := 31) (N := some 66) (v := ?_) (a' := ?_) #[true, true, true, true, true, true, true, true, true, true, true, true, true, true, true, true, true, true, true, true, true, true, true, true, true, true, true, true, true, true, true, true, false, false, false, false, false, false, false, false, false, false, false, false, false, false, false, false, false, false, false, false, false, false, false, false, false, false, false, false, false, false, false, false] rfl rfl (by as_aux_lemma => kernel_rfl) (fun _ _ _ h => h) (Or.inl ⟨by rfl, ?_⟩) hHeld ?_ ?_
        rotate_left
        · rintro w' ⟨s0_, s1_, s2_, s3_, s4_, s5_, s6_, s7_, s8_, s9_, s10_, s11_, s12_, s13_, s14_, s15_, s16_, s17_, s18_, s19_, s20_, s21_, s22_, s23_, s24_, s25_, s26_, s27_, s28_, s29_, s30_, s31_, s32_, s33_, s34_, s35_, s36_, s37_, s38_, s39_, s40_, s41_, s42_, s43_, s44_⟩
          go_simp
          with_reducible rfl
        rotate_left
        · simp only [Act.put, List.setIfInBounds_toArray, List.set_cons_zero, List.set_cons_succ]
          rfl
        refine take_ (i := 34) (N := some 69) (v := ?_) (a' := ?_) #[true, true, true, true, true, true, true, true, true, true, true, true, true, true, true, true, true, true, true, true, true, true, true, true, true, true, true, true, true, true, true, true, false, false, true, false, false, false, false, false, false, false, false, false, false, false, false, false, false, false, false, false, false, false, false, false, false, false, false, false, false, false, false, false] rfl rfl (by as_aux_lemma => kernel_rfl) (fun _ _ _ h => h) (Or.inl ⟨by rfl, ?_⟩) hHeld ?_ ?_
        rotate_left
        · rintro w' ⟨s0_, s1_, s2_, s3_, s4_, s5_, s6_, s7_, s8_, s9_, s10_, s11_, s12_, s13_, s14_, s15_, s16_, s17_, s18_, s19_, s20_, s21_, s22_, s23_, s24_, s25_, s26_, s27_, s28_, s29_, s30_, s31_, s32_, s33_, s34_, s35_, s36_, s37_, s38_, s39_, s40_, s41_, s42_, s43_, s44_⟩
          go_simp
          with_reducible rfl
        rotate_left
        · simp only [Act.put, List.setIfInBounds_toArray, List.set_cons_zero, List.set_cons_succ]
          rfl
        refine one_ (i := 32) (N := some 67) #[true, true, true, true, true, true, true, true, true, true, true, true, true, true, true, true, true, true, true, true, true, true, true, true, true, true, true, true, true, true, true, true, true, false, true, false, false, false, false, false, false, false, false, false, false, false, false, false, false, false, false, false, false, false, false, false, false, false, false, false, false, false, false, false] rfl rfl (by as_aux_lemma => kernel_rfl) (by decide) (fun K hK => ?_)
        refine value_ (v := ?_) (w1 := ?_) (by rfl) rfl ?_ ?_
        rotate_left 2
        · go_simp
          first | rfl | (constructor <;> rfl)
        have BL := Blk.new w13 26 #[.bool a0, .int .i64 a1, .bool a2, .int .u64 a3, .int .i64 a4, .int .i64 a5, .bool a6, .int .u64 a7, .int .i64 a8]
        have BA := BA.alloc (.cells #[.bool a0, .int .i64 a1, .bool a2, .int .u64 a3, .int .i64 a4, .int .i64 a5, .bool a6, .int .u64 a7, .int .i64 a8] 26)
        have BB := BB.alloc (.cells #[.bool a0, .int .i64 a1, .bool a2, .int .u64 a3, .int .i64 a4, .int .i64 a5, .bool a6, .int .u64 a7, .int .i64 a8] 26)
        have BC := BC.alloc (.cells #[.bool a0, .int .i64 a1, .bool a2, .int .u64 a3, .int .i64 a4, .int .i64 a5, .bool a6, .int .u64 a7, .int .i64 a8] 26)
        have BM := BM.alloc (.cells #[.bool a0, .int .i64 a1, .bool a2, .int .u64 a3, .int .i64 a4, .int .i64 a5, .bool a6, .int .u64 a7, .int .i64 a8] 26)
        have BH := BH.alloc (.cells #[.bool a0, .int .i64 a1, .bool a2, .int .u64 a3, .int .i64 a4, .int .i64 a5, .bool a6, .int .u64 a7, .int .i64 a8] 26)
        have HB := bl_alloc HB (.cells #[.bool a0, .int .i64 a1, .bool a2, .int .u64 a3, .int .i64 a4, .int .i64 a5, .bool a6, .int .u64 a7, .int .i64 a8] 26)
        refine hK.out _ _ ⟨BA.cell 0, BA.cell 1, BA.cell 2, BA.cell 3, BA.cell 4, BA.cell 5, BA.cell 6, BA.cell 7, BA.cell 8, BB.cell 0, BB.cell 1, BB.cell 2, BB.cell 3, BB.cell 4, BB.cell 5, BB.cell 6, BB.cell 7, BB.cell 8, BC.cell 0, BC.cell 1, BC.cell 2, BC.cell 3, BC.cell 4, BC.cell 5, BC.cell 6, BC.cell 7, BC.cell 8, BM.cell 0, BM.cell 1, BM.cell 2, BM.cell 3, BM.cell 4, BM.cell 5, BM.cell 6, BM.cell 7, BM.cell 8, BH.cell 0, BH.cell 1, BH.cell 2, BH.cell 3, BH.cell 4, BH.cell 5, BH.cell 6, BH.cell 7, BH.cell 8⟩ (fun hHeld => ?_)
        clear hK K
        refine norm_ (a' := ?_) ?_ ?_
        rotate_left
        · show Act.put _ (some 67) _ = _
          simp only [Act.put, List.setIfInBounds_toArray, List.set_cons_zero, List.set_cons_succ]
          rfl
        refine one_ (i := 33) (N := some 68) #[true, true, true, true, true, true, true, true, true, true, true, true, true, true, true, true, true, true, true, true, true, true, true, true, true, true, true, true, true, true, true, true, true, true, true, false, false, false, false, false, false, false, false, false, false, false, false, false, false, false, false, false, false, false, false, false, false, false, false, false, false, false, false, false] rfl rfl (by as_aux_lemma => kernel_rfl) (by decide) (fun K hK => ?_)
        refine goes_ Try.func17 (by kernel_rfl) rfl #[.slice (some ⟨w13.heap.size, 0, none⟩) 1 1] (by rfl) rfl rfl (by simp only [List.map_toArray, List.map_cons, List.map_nil] <;> rfl) ?_
        with_reducible refine (HU1.out _ _ (SlI.lit1 (x := ⟨a0, ⟨a1, a2, a3, a4⟩, ⟨a5, a6, a7, a8⟩⟩) BL BL.lt)).mono ?_
        rintro e w14 ⟨rfl, hb⟩
        refine ⟨_, rfl, ?_⟩
        have BA := BA.call hb
        have BB := BB.call hb
        have BC := BC.call hb
        have BM := BM.call hb
        have BH := BH.call hb
        have HB := bl_trans HB hb
        refine hK.out _ _ ⟨BA.cell 0, BA.cell 1, BA.cell 2, BA.cell 3, BA.cell 4, BA.cell 5, BA.cell 6, BA.cell 7, BA.cell 8, BB.cell 0, BB.cell 1, BB.cell 2, BB.cell 3, BB.cell 4, BB.cell 5, BB.cell 6, BB.cell 7, BB.cell 8, BC.cell 0, BC.cell 1, BC.cell 2, BC.cell 3, BC.cell 4, BC.cell 5, BC.cell 6, BC.cell 7, BC.cell 8, BM.cell 0, BM.cell 1, BM.cell 2, BM.cell 3, BM.cell 4, BM.cell 5, BM.cell 6, BM.cell 7, BM.cell 8, BH.cell 0, BH.cell 1, BH.cell 2, BH.cell 3, BH.cell 4, BH.cell 5, BH.cell 6, BH.cell 7, BH.cell 8⟩ (fun hHeld => ?_)
        clear hK K hb
        refine norm_ (a' := ?_) ?_ ?_
        rotate_left
        · show Act.put _ (some 68) _ = _
          simp only [Act.put, List.setIfInBounds_toArray, List.set_cons_zero, List.set_cons_succ]
          rfl
        refine pure_ (i := 35) (N := some 70) (v := ?_) (a' := ?_) #[true, true, true, true, true, true, true, true, true, true, true, true, true, true, true, true, true, true, true, true, true, true, true, true, true, true, true, true, true, true, true, true, true, true, true, true, false, false, false, false, false, false, false, false, false, false, false, false, false, false, false, false, false, false, false, false, false, false, false, false, false, false, false, false] rfl rfl (by as_aux_lemma => kernel_rfl) (fun _ _ _ h => h) (Or.inl ⟨by rfl, ?_⟩) ?_ ?_
        rotate_left
        · intro w'
          go_simp
          with_reducible rfl
        rotate_left
        · simp only [Act.put, List.setIfInBounds_toArray, List.set_cons_zero, List.set_cons_succ]
          rfl
        refine pure_ (i := 36) (N := some 71) (v := ?_) (a' := ?_) #[true, true, true, true, true, true, true, true, true, true, true, true, true, true, true, true, true, true, true, true, true, true, true, true, true, true, true, true, true, true, true, true, true, true, true, true, true, false, false, false, false, false, false, false, false, false, false, false, false, false, false, false, false, false, false, false, false, false, false, false, false, false, false, false] rfl rfl (by as_aux_lemma => kernel_rfl) (fun _ _ _ h => h) (Or.inl ⟨by rfl, ?_⟩) ?_ ?_
        rotate_left
        · intro w'
          go_simp
          with_reducible rfl
        rotate_left
        · simp only [Act.put, List.setIfInBounds_toArray, List.set_cons_zero, List.set_cons_succ]
          rfl
        refine pure_ (i := 37) (N := some 72) (v := ?_) (a' := ?_) #[true, true, true, true, true, true, true, true, true, true, true, true, true, true, true, true, true, true, true, true, true, true, true, true, true, true, true, true, true, true, true, true, true, true, true, true, true, true, false, false, false, false, false, false, false, false, false, false, false, false, false, false, false, false, false, false, false, false, false, false, false, false, false, false] rfl rfl (by as_aux_lemma => kernel_rfl) (fun _ _ _ h => h) (Or.inl ⟨by rfl, ?_⟩) ?_ ?_
        rotate_left
        · intro w'
          go_simp
          with_reducible rfl
        rotate_left
        · simp only [Act.put, List.setIfInBounds_toArray, List.set_cons_zero, List.set_cons_succ]
          rfl
        refine one_ (i := 38) (N := some 73) #[true, true, true, true, true, true, true, true, true, true, true, true, true, true, true, true, true, true, true, true, true, true, true, true, true, true, true, true, true, true, true, true, true, true, true, true, true, true, true, false, false, false, false, false, false, false, false, false, false, false, false, false, false, false, false, false, false, false, false, false, false, false, false, false] rfl rfl (by as_aux_lemma => kernel_rfl) (by decide) (fun K hK => ?_)
        refine goes_ Try.func16 (by kernel_rfl) rfl #[.slice none 0 0] (by rfl) rfl rfl (by simp only [List.map_toArray, List.map_cons, List.map_nil] <;> rfl) ?_
        with_reducible refine (HM0.out _).mono ?_
        rintro e w15 ⟨rfl, hb⟩
        refine ⟨_, rfl, ?_⟩
        have BA := BA.call hb
        have BB := BB.call hb
        have BC := BC.call hb
        have BM := BM.call hb
        have BH := BH.call hb
        have HB := bl_trans HB hb
        refine hK.out _ _ ⟨BA.cell 0, BA.cell 1, BA.cell 2, BA.cell 3, BA.cell 4, BA.cell 5, BA.cell 6, BA.cell 7, BA.cell 8, BB.cell 0, BB.cell 1, BB.cell 2, BB.cell 3, BB.cell 4, BB.cell 5, BB.cell 6, BB.cell 7, BB.cell 8, BC.cell 0, BC.cell 1, BC.cell 2, BC.cell 3, BC.cell 4, BC.cell 5, BC.cell 6, BC.cell 7, BC.cell 8, BM.cell 0, BM.cell 1, BM.cell 2, BM.cell 3, BM.cell 4, BM.cell 5, BM.cell 6, BM.cell 7, BM.cell 8, BH.cell 0, BH.cell 1, BH.cell 2, BH.cell 3, BH.cell 4, BH.cell 5, BH.cell 6, BH.cell 7, BH.cell 8⟩ (fun hHeld => ?_)
        clear hK K hb
        refine norm_ (a' := ?_) ?_ ?_
        rotate_left
        · show Act.put _ (some 73) _ = _
          simp only [Act.put, List.setIfInBounds_toArray, List.set_cons_zero, List.set_cons_succ]
          rfl
        refine one_ (i := 39) (N := some 74) #[true, true, true, true, true, true, true, true, true, true, true, true, true, true, true, true, true, true, true, true, true, true, true, true, true, true, true, true, true, true, true, true, true, true, true, true, true, true, true, true, false, false, false, false, false, false, false, false, false, false, false, false, false, false, false, false, false, false, false, false, false, false, false, false] rfl rfl (by as_aux_lemma => kernel_rfl) (by decide) (fun K hK => ?_)
        refine goes_ Try.func18 (by kernel_rfl) rfl #[] (by rfl) rfl rfl (by simp only [List.map_toArray, List.map_cons, List.map_nil] <;> rfl) ?_
        with_reducible refine (allI_lit _).mono ?_
        rintro e w16 ⟨rfl, hb⟩
        refine ⟨_, rfl, ?_⟩
        have BA := BA.call hb
        have BB := BB.call hb
        have BC := BC.call hb
        have BM := BM.call hb
        have BH := BH.call hb
        have HB := bl_trans HB hb
        refine hK.out _ _ ⟨BA.cell 0, BA.cell 1, BA.cell 2, BA.cell 3, BA.cell 4, BA.cell 5, BA.cell 6, BA.cell 7, BA.cell 8, BB.cell 0, BB.cell 1, BB.cell 2, BB.cell 3, BB.cell 4, BB.cell 5, BB.cell 6, BB.cell 7, BB.cell 8, BC.cell 0, BC.cell 1, BC.cell 2, BC.cell 3, BC.cell 4, BC.cell 5, BC.cell 6, BC.cell 7, BC.cell 8, BM.cell 0, BM.cell 1, BM.cell 2, BM.cell 3, BM.cell 4, BM.cell 5, BM.cell 6, BM.cell 7, BM.cell 8, BH.cell 0, BH.cell 1, BH.cell 2, BH.cell 3, BH.cell 4, BH.cell 5, BH.cell 6, BH.cell 7, BH.cell 8⟩ (fun hHeld => ?_)
        clear hK K hb
        refine norm_ (a' := ?_) ?_ ?_
        rotate_left
        · show Act.put _ (some 74) _ = _
          simp only [Act.put, List.setIfInBounds_toArray, List.set_cons_zero, List.set_cons_succ]
          rfl
        refine pure_ (i := 40) (N := some 75) (v := ?_) (a' := ?_) #[true, true, true, true, true, true, true, true, true, true, true, true, true, true, true, true, true, true, true, true, true, true, true, true, true, true, true, true, true, true, true, true, true, true, true, true, true, true, true, true, true, false, false, false, false, false, false, false, false, false, false, false, false, false, false, false, false, false, false, false, false, false, false, false] rfl rfl (by as_aux_lemma => kernel_rfl) (fun _ _ _ h => h) (Or.inl ⟨by rfl, ?_⟩) ?_ ?_
        rotate_left
        · intro w'
          go_simp
          with_reducible rfl
        rotate_left
        · simp only [Act.put, List.setIfInBounds_toArray, List.set_cons_zero, List.set_cons_succ]
          rfl
        refine pure_ (i := 41) (N := some 76) (v := ?_) (a' := ?_) #[true, true, true, true, true, true, true, true, true, true, true, true, true, true, true, true, true, true, true, true, true, true, true, true, true, true, true, true, true, true, true, true, true, true, true, true, true, true, true, true, true, true, false, false, false, false, false, false, false, false, false, false, false, false, false, false, false, false, false, false, false, false, false, false] rfl rfl (by as_aux_lemma => kernel_rfl) (fun _ _ _ h => h) (Or.inl ⟨by rfl, ?_⟩) ?_ ?_
        rotate_left
        · intro w'
          go_simp
          with_reducible rfl
        rotate_left
        · simp only [Act.put, List.setIfInBounds_toArray, List.set_cons_zero, List.set_cons_succ]
          rfl
        refine pure_ (i := 42) (N := some 77) (v := ?_) (a' := ?_) #[true, true, true, true, true, true, true, true, true, true, true, true, true, true, true, true, true, true, true, true, true, true, true, true, true, true, true, true, true, true, true, true, true, true, true, true, true, true, true, true, true, true, true, false, false, false, false, false, false, false, false, false, false, false, false, false, false, false, false, false, false, false, false, false] rfl rfl (by as_aux_lemma => kernel_rfl) (fun _ _ _ h => h) (Or.inl ⟨by rfl, ?_⟩) ?_ ?_
        rotate_left
        · intro w'
          go_simp
          with_reducible rfl
        rotate_left
        · simp only [Act.put, List.setIfInBounds_toArray, List.set_cons_zero, List.set_cons_succ]
          rfl
        refine one_ (i := 43) (N := some 78) #[true, true, true, true, true, true, true, true, true, true, true, true, true, true, true, true, true, true, true, true, true, true, true, true, true, true, true, true, true, true, true, true, true, true, true, true, true, true, true, true, true, true, true, true, false, false, false, false, false, false, false, false, false, false, false, false, false, false, false, false, false, false, false, false] rfl rfl (by as_aux_lemma => kernel_rfl) (by decide) (fun K hK => ?_)
        refine goes_ Try.func17 (by kernel_rfl) rfl #[.slice none 0 0] (by rfl) rfl rfl (by simp only [List.map_toArray, List.map_cons, List.map_nil] <;> rfl) ?_
        with_reducible refine (HU0.out _).mono ?_
        rintro e w17 ⟨rfl, hb⟩
        refine ⟨_, rfl, ?_⟩
        have BA := BA.call hb
        have BB := BB.call hb
        have BC := BC.call hb
        have BM := BM.call hb
        have BH := BH.call hb
        have HB := bl_trans HB hb
        refine hK.out _ _ ⟨BA.cell 0, BA.cell 1, BA.cell 2, BA.cell 3, BA.cell 4, BA.cell 5, BA.cell 6, BA.cell 7, BA.cell 8, BB.cell 0, BB.cell 1, BB.cell 2, BB.cell 3, BB.cell 4, BB.cell 5, BB.cell 6, BB.cell 7, BB.cell 8, BC.cell 0, BC.cell 1, BC.cell 2, BC.cell 3, BC.cell 4, BC.cell 5, BC.cell 6, BC.cell 7, BC.cell 8, BM.cell 0, BM.cell 1, BM.cell 2, BM.cell 3, BM.cell 4, BM.cell 5, BM.cell 6, BM.cell 7, BM.cell 8, BH.cell 0, BH.cell 1, BH.cell 2, BH.cell 3, BH.cell 4, BH.cell 5, BH.cell 6, BH.cell 7, BH.cell 8⟩ (fun hHeld => ?_)
        clear hK K hb
        refine norm_ (a' := ?_) ?_ ?_
        rotate_left
        · show Act.put _ (some 78) _ = _
          simp only [Act.put, List.setIfInBounds_toArray, List.set_cons_zero, List.set_cons_succ]
          rfl
        refine one_ (i := 44) (N := some 79) #[true, true, true, true, true, true, true, true, true, true, true, true, true, true, true, true, true, true, true, true, true, true, true, true, true, true, true, true, true, true, true, true, true, true, true, true, true, true, true, true, true, true, true, true, true, false, false, false, false, false, false, false, false, false, false, false, false, false, false, false, false, false, false, false] rfl rfl (by as_aux_lemma => kernel_rfl) (by decide) (fun K hK => ?_)
        refine goes_ Try.func19 (by kernel_rfl) rfl #[] (by rfl) rfl rfl (by simp only [List.map_toArray, List.map_cons, List.map_nil] <;> rfl) ?_
        with_reducible refine (noneI_lit _).mono ?_
        rintro e w18 ⟨rfl, hb⟩
        refine ⟨_, rfl, ?_⟩
        have BA := BA.call hb
        have BB := BB.call hb
        have BC := BC.call hb
        have BM := BM.call hb
        have BH := BH.call hb
        have HB := bl_trans HB hb
        refine hK.out _ _ ⟨BA.cell 0, BA.cell 1, BA.cell 2, BA.cell 3, BA.cell 4, BA.cell 5, BA.cell 6, BA.cell 7, BA.cell 8, BB.cell 0, BB.cell 1, BB.cell 2, BB.cell 3, BB.cell 4, BB.cell 5, BB.cell 6, BB.cell 7, BB.cell 8, BC.cell 0, BC.cell 1, BC.cell 2, BC.cell 3, BC.cell 4, BC.cell 5, BC.cell 6, BC.cell 7, BC.cell 8, BM.cell 0, BM.cell 1, BM.cell 2, BM.cell 3, BM.cell 4, BM.cell 5, BM.cell 6, BM.cell 7, BM.cell 8, BH.cell 0, BH.cell 1, BH.cell 2, BH.cell 3, BH.cell 4, BH.cell 5, BH.cell 6, BH.cell 7, BH.cell 8⟩ (fun hHeld => ?_)
        clear hK K hb
        refine norm_ (a' := ?_) ?_ ?_
        rotate_left
        · show Act.put _ (some 79) _ = _
          simp only [Act.put, List.setIfInBounds_toArray, List.set_cons_zero, List.set_cons_succ]
          rfl
        refine pure_ (i := 45) (N := some 80) (v := ?_) (a' := ?_) #[true, true, true, true, true, true, true, true, true, true, true, true, true, true, true, true, true, true, true, true, true, true, true, true, true, true, true, true, true, true, true, true, true, true, true, true, true, true, true, true, true, true, true, true, true, true, false, false, false, false, false, false, false, false, false, false, false, false, false, false, false, false, false, false] rfl rfl (by as_aux_lemma => kernel_rfl) (fun _ _ _ h => h) (Or.inl ⟨by rfl, ?_⟩) ?_ ?_
        rotate_left
        · intro w'
          go_simp
          with_reducible rfl
        rotate_left
        · simp only [Act.put, List.setIfInBounds_toArray, List.set_cons_zero, List.set_cons_succ]
          rfl
        refine pure_ (i := 46) (N := some 81) (v := ?_) (a' := ?_) #[true, true, true, true, true, true, true, true, true, true, true, true, true, true, true, true, true, true, true, true, true, true, true, true, true, true, true, true, true, true, true, true, true, true, true, true, true, true, true, true, true, true, true, true, true, true, true, false, false, false, false, false, false, false, false, false, false, false, false, false, false, false, false, false] rfl rfl (by as_aux_lemma => kernel_rfl) (fun _ _ _ h => h) (Or.inl ⟨by rfl, ?_⟩) ?_ ?_
        rotate_left
        · intro w'
          go_simp
          with_reducible rfl
        rotate_left
        · simp only [Act.put, List.setIfInBounds_toArray, List.set_cons_zero, List.set_cons_succ]
          rfl
        refine pure_ (i := 47) (N := some 82) (v := ?_) (a' := ?_) #[true, true, true, true, true, true, true, true, true, true, true, true, true, true, true, true, true, true, true, true, true, true, true, true, true, true, true, true, true, true, true, true, true, true, true, true, true, true, true, true, true, true, true, true, true, true, true, true, false, false, false, false, false, false, false, false, false, false, false, false, false, false, false, false] rfl rfl (by as_aux_lemma => kernel_rfl) (fun _ _ _ h => h) (Or.inl ⟨by rfl, ?_⟩) ?_ ?_
        rotate_left
        · intro w'
          go_simp
          with_reducible rfl
        rotate_left
        · simp only [Act.put, List.setIfInBounds_toArray, List.set_cons_zero, List.set_cons_succ]
          rfl
        refine take_ (i := 48) (N := some 83) (v := ?_) (a' := ?_) #[true, true, true, true, true, true, true, true, true, true, true, true, true, true, true, true, true, true, true, true, true, true, true, true, true, true, true, true, true, true, true, true, true, true, true, true, true, true, true, true, true, true, true, true, true, true, true, true, true, false, false, false, false, false, false, false, false, false, false, false, false, false, false, false] rfl rfl (by as_aux_lemma => kernel_rfl) (fun _ _ _ h => h) (Or.inl ⟨by rfl, ?_⟩) hHeld ?_ ?_
        rotate_left
        · rintro w' ⟨s0_, s1_, s2_, s3_, s4_, s5_, s6_, s7_, s8_, s9_, s10_, s11_, s12_, s13_, s14_, s15_, s16_, s17_, s18_, s19_, s20_, s21_, s22_, s23_, s24_, s25_, s26_, s27_, s28_, s29_, s30_, s31_, s32_, s33_, s34_, s35_, s36_, s37_, s38_, s39_, s40_, s41_, s42_, s43_, s44_⟩
          go_simp
          with_reducible rfl
        rotate_left
        · simp only [Act.put, List.setIfInBounds_toArray, List.set_cons_zero, List.set_cons_succ]
          rfl
        refine take_ (i := 49) (N := some 84) (v := ?_) (a' := ?_) #[true, true, true, true, true, true, true, true, true, true, true, true, true, true, true, true, true, true, true, true, true, true, true, true, true, true, true, true, true, true, true, true, true, true, true, true, true, true, true, true, true, true, true, true, true, true, true, true, true, true, false, false, false, false, false, false, false, false, false, false, false, false, false, false] rfl rfl (by as_aux_lemma => kernel_rfl) (fun _ _ _ h => h) (Or.inl ⟨by rfl, ?_⟩) hHeld ?_ ?_
        rotate_left
        · rintro w' ⟨s0_, s1_, s2_, s3_, s4_, s5_, s6_, s7_, s8_, s9_, s10_, s11_, s12_, s13_, s14_, s15_, s16_, s17_, s18_, s19_, s20_, s21_, s22_, s23_, s24_, s25_, s26_, s27_, s28_, s29_, s30_, s31_, s32_, s33_, s34_, s35_, s36_, s37_, s38_, s39_, s40_, s41_, s42_, s43_, s44_⟩
          go_simp
          with_reducible rfl
        rotate_left
        · simp only [Act.put, List.setIfInBounds_toArray, List.set_cons_zero, List.set_cons_succ]
          rfl
        refine take_ (i := 52) (N := some 87) (v := ?_) (a' := ?_) #[true, true, true, true, true, true, true, true, true, true, true, true, true, true, true, true, true, true, true, true, true, true, true, true, true, true, true, true, true, true, true, true, true, true, true, true, true, true, true, true, true, true, true, true, true, true, true, true, true, true, false, false, true, false, false, false, false, false, false, false, false, false, false, false] rfl rfl (by as_aux_lemma => kernel_rfl) (fun _ _ _ h => h) (Or.inl ⟨by rfl, ?_⟩) hHeld ?_ ?_
        rotate_left
        · rintro w' ⟨s0_, s1_, s2_, s3_, s4_, s5_, s6_, s7_, s8_, s9_, s10_, s11_, s12_, s13_, s14_, s15_, s16_, s17_, s18_, s19_, s20_, s21_, s22_, s23_, s24_, s25_, s26_, s27_, s28_, s29_, s30_, s31_, s32_, s33_, s34_, s35_, s36_, s37_, s38_, s39_, s40_, s41_, s42_, s43_, s44_⟩
          go_simp
          with_reducible rfl
        rotate_left
        · simp only [Act.put, List.setIfInBounds_toArray, List.set_cons_zero, List.set_cons_succ]
          rfl
        refine one_ (i := 50) (N := some 85) #[true, true, true, true, true, true, true, true, true, true, true, true, true, true, true, true, true, true, true, true, true, true, true, true, true, true, true, true, true, true, true, true, true, true, true, true, true, true, true, true, true, true, true, true, true, true, true, true, true, true, true, false, true, false, false, false, false, false, false, false, false, false, false, false] rfl rfl (by as_aux_lemma => kernel_rfl) (by decide) (fun K hK => ?_)
        refine value_ (v := ?_) (w1 := ?_) (by rfl) rfl ?_ ?_
        rotate_left 2
        · go_simp
          first | rfl | (constructor <;> rfl)
        have BL := Blk.new w18 26 #[.bool a0, .int .i64 a1, .bool a2, .int .u64 a3, .int .i64 a4, .int .i64 a5, .bool a6, .int .u64 a7, .int .i64 a8, .bool a0, .int .i64 a1, .bool a2, .int .u64 a3, .int .i64 a4, .int .i64 a5, .bool a6, .int .u64 a7, .int .i64 a8]
        have BA := BA.alloc (.cells #[.bool a0, .int .i64 a1, .bool a2, .int .u64 a3, .int .i64 a4, .int .i64 a5, .bool a6, .int .u64 a7, .int .i64 a8, .bool a0, .int .i64 a1, .bool a2, .int .u64 a3, .int .i64 a4, .int .i64 a5, .bool a6, .int .u64 a7, .int .i64 a8] 26)
        have BB := BB.alloc (.cells #[.bool a0, .int .i64 a1, .bool a2, .int .u64 a3, .int .i64 a4, .int .i64 a5, .bool a6, .int .u64 a7, .int .i64 a8, .bool a0, .int .i64 a1, .bool a2, .int .u64 a3, .int .i64 a4, .int .i64 a5, .bool a6, .int .u64 a7, .int .i64 a8] 26)
        have BC := BC.alloc (.cells #[.bool a0, .int .i64 a1, .bool a2, .int .u64 a3, .int .i64 a4, .int .i64 a5, .bool a6, .int .u64 a7, .int .i64 a8, .bool a0, .int .i64 a1, .bool a2, .int .u64 a3, .int .i64 a4, .int .i64 a5, .bool a6, .int .u64 a7, .int .i64 a8] 26)
        have BM := BM.alloc (.cells #[.bool a0, .int .i64 a1, .bool a2, .int .u64 a3, .int .i64 a4, .int .i64 a5, .bool a6, .int .u64 a7, .int .i64 a8, .bool a0, .int .i64 a1, .bool a2, .int .u64 a3, .int .i64 a4, .int .i64 a5, .bool a6, .int .u64 a7, .int .i64 a8] 26)
        have BH := BH.alloc (.cells #[.bool a0, .int .i64 a1, .bool a2, .int .u64 a3, .int .i64 a4, .int .i64 a5, .bool a6, .int .u64 a7, .int .i64 a8, .bool a0, .int .i64 a1, .bool a2, .int .u64 a3, .int .i64 a4, .int .i64 a5, .bool a6, .int .u64 a7, .int .i64 a8] 26)
        have HB := bl_alloc HB (.cells #[.bool a0, .int .i64 a1, .bool a2, .int .u64 a3, .int .i64 a4, .int .i64 a5, .bool a6, .int .u64 a7, .int .i64 a8, .bool a0, .int .i64 a1, .bool a2, .int .u64 a3, .int .i64 a4, .int .i64 a5, .bool a6, .int .u64 a7, .int .i64 a8] 26)
        refine hK.out _ _ ⟨BA.cell 0, BA.cell 1, BA.cell 2, BA.cell 3, BA.cell 4, BA.cell 5, BA.cell 6, BA.cell 7, BA.cell 8, BB.cell 0, BB.cell 1, BB.cell 2, BB.cell 3, BB.cell 4, BB.cell 5, BB.cell 6, BB.cell 7, BB.cell 8, BC.cell 0, BC.cell 1, BC.cell 2, BC.cell 3, BC.cell 4, BC.cell 5, BC.cell 6, BC.cell 7, BC.cell 8, BM.cell 0, BM.cell 1, BM.cell 2, BM.cell 3, BM.cell 4, BM.cell 5, BM.cell 6, BM.cell 7, BM.cell 8, BH.cell 0, BH.cell 1, BH.cell 2, BH.cell 3, BH.cell 4, BH.cell 5, BH.cell 6, BH.cell 7, BH.cell 8⟩ (fun hHeld => ?_)
        clear hK K
        refine norm_ (a' := ?_) ?_ ?_
        rotate_left
        · show Act.put _ (some 85) _ = _
          simp only [Act.put, List.setIfInBounds_toArray, List.set_cons_zero, List.set_cons_succ]
          rfl
        refine one_ (i := 51) (N := some 86) #[true, true, true, true, true, true, true, true, true, true, true, true, true, true, true, true, true, true, true, true, true, true, true, true, true, true, true, true, true, true, true, true, true, true, true, true, true, true, true, true, true, true, true, true, true, true, true, true, true, true, true, true, true, false, false, false, false, false, false, false, false, false, false, false] rfl rfl (by as_aux_lemma => kernel_rfl) (by decide) (fun K hK => ?_)
        refine goes_ Try.func17 (by kernel_rfl) rfl #[.slice (some ⟨w18.heap.size, 0, none⟩) 2 2] (by rfl) rfl rfl (by simp only [List.map_toArray, List.map_cons, List.map_nil] <;> rfl) ?_
        with_reducible refine (HUU.out _ _ (SlI.lit2 (x := ⟨a0, ⟨a1, a2, a3, a4⟩, ⟨a5, a6, a7, a8⟩⟩) (y := ⟨a0, ⟨a1, a2, a3, a4⟩, ⟨a5, a6, a7, a8⟩⟩) BL BL.lt)).mono ?_
        rintro e w19 ⟨rfl, hb⟩
        refine ⟨_, rfl, ?_⟩
        have BA := BA.call hb
        have BB := BB.call hb
        have BC := BC.call hb
        have BM := BM.call hb
        have BH := BH.call hb
        have HB := bl_trans HB hb
        refine hK.out _ _ ⟨BA.cell 0, BA.cell 1, BA.cell 2, BA.cell 3, BA.cell 4, BA.cell 5, BA.cell 6, BA.cell 7, BA.cell 8, BB.cell 0, BB.cell 1, BB.cell 2, BB.cell 3, BB.cell 4, BB.cell 5, BB.cell 6, BB.cell 7, BB.cell 8, BC.cell 0, BC.cell 1, BC.cell 2, BC.cell 3, BC.cell 4, BC.cell 5, BC.cell 6, BC.cell 7, BC.cell 8, BM.cell 0, BM.cell 1, BM.cell 2, BM.cell 3, BM.cell 4, BM.cell 5, BM.cell 6, BM.cell 7, BM.cell 8, BH.cell 0, BH.cell 1, BH.cell 2, BH.cell 3, BH.cell 4, BH.cell 5, BH.cell 6, BH.cell 7, BH.cell 8⟩ (fun hHeld => ?_)
        clear hK K hb
        refine norm_ (a' := ?_) ?_ ?_
        rotate_left
        · show Act.put _ (some 86) _ = _
          simp only [Act.put, List.setIfInBounds_toArray, List.set_cons_zero, List.set_cons_succ]
          rfl
        refine pure_ (i := 53) (N := some 88) (v := ?_) (a' := ?_) #[true, true, true, true, true, true, true, true, true, true, true, true, true, true, true, true, true, true, true, true, true, true, true, true, true, true, true, true, true, true, true, true, true, true, true, true, true, true, true, true, true, true, true, true, true, true, true, true, true, true, true, true, true, true, false, false, false, false, false, false, false, false, false, false] rfl rfl (by as_aux_lemma => kernel_rfl) (fun _ _ _ h => h) (Or.inl ⟨by rfl, ?_⟩) ?_ ?_
        rotate_left
        · intro w'
          go_simp
          with_reducible rfl
        rotate_left
        · simp only [Act.put, List.setIfInBounds_toArray, List.set_cons_zero, List.set_cons_succ]
          rfl
        refine pure_ (i := 54) (N := some 89) (v := ?_) (a' := ?_) #[true, true, true, true, true, true, true, true, true, true, true, true, true, true, true, true, true, true, true, true, true, true, true, true, true, true, true, true, true, true, true, true, true, true, true, true, true, true, true, true, true, true, true, true, true, true, true, true, true, true, true, true, true, true, true, false, false, false, false, false, false, false, false, false] rfl rfl (by as_aux_lemma => kernel_rfl) (fun _ _ _ h => h) (Or.inl ⟨by rfl, ?_⟩) ?_ ?_
        rotate_left
        · intro w'
          go_simp
          with_reducible rfl
        rotate_left
        · simp only [Act.put, List.setIfInBounds_toArray, List.set_cons_zero, List.set_cons_succ]
          rfl
        refine pure_ (i := 55) (N := some 90) (v := ?_) (a' := ?_) #[true, true, true, true, true, true, true, true, true, true, true, true, true, true, true, true, true, true, true, true, true, true, true, true, true, true, true, true, true, true, true, true, true, true, true, true, true, true, true, true, true, true, true, true, true, true, true, true, true, true, true, true, true, true, true, true, false, false, false, false, false, false, false, false] rfl rfl (by as_aux_lemma => kernel_rfl) (fun _ _ _ h => h) (Or.inl ⟨by rfl, ?_⟩) ?_ ?_
        rotate_left
        · intro w'
          go_simp
          with_reducible rfl
        rotate_left
        · simp only [Act.put, List.setIfInBounds_toArray, List.set_cons_zero, List.set_cons_succ]
          rfl
        refine take_ (i := 56) (N := some 91) (v := ?_) (a' := ?_) #[true, true, true, true, true, true, true, true, true, true, true, true, true, true, true, true, true, true, true, true, true, true, true, true, true, true, true, true, true, true, true, true, true, true, true, true, true, true, true, true, true, true, true, true, true, true, true, true, true, true, true, true, true, true, true, true, true, false, false, false, false, false, false, false] rfl rfl (by as_aux_lemma => kernel_rfl) (fun _ _ _ h => h) (Or.inl ⟨by rfl, ?_⟩) hHeld ?_ ?_
        rotate_left
        · rintro w' ⟨s0_, s1_, s2_, s3_, s4_, s5_, s6_, s7_, s8_, s9_, s10_, s11_, s12_, s13_, s14_, s15_, s16_, s17_, s18_, s19_, s20_, s21_, s22_, s23_, s24_, s25_, s26_, s27_, s28_, s29_, s30_, s31_, s32_, s33_, s34_, s35_, s36_, s37_, s38_, s39_, s40_, s41_, s42_, s43_, s44_⟩
          go_simp
          with_reducible rfl
        rotate_left
        · simp only [Act.put, List.setIfInBounds_toArray, List.set_cons_zero, List.set_cons_succ]
          rfl
        refine take_ (i := 57) (N := some 92) (v := ?_) (a' := ?_) #[true, true, true, true, true, true, true, true, true, true, true, true, true, true, true, true, true, true, true, true, true, true, true, true, true, true, true, true, true, true, true, true, true, true, true, true, true, true, true, true, true, true, true, true, true, true, true, true, true, true, true, true, true, true, true, true, true, true, false, false, false, false, false, false] rfl rfl (by as_aux_lemma => kernel_rfl) (fun _ _ _ h => h) (Or.inl ⟨by rfl, ?_⟩) hHeld ?_ ?_
        rotate_left
        · rintro w' ⟨s0_, s1_, s2_, s3_, s4_, s5_, s6_, s7_, s8_, s9_, s10_, s11_, s12_, s13_, s14_, s15_, s16_, s17_, s18_, s19_, s20_, s21_, s22_, s23_, s24_, s25_, s26_, s27_, s28_, s29_, s30_, s31_, s32_, s33_, s34_, s35_, s36_, s37_, s38_, s39_, s40_, s41_, s42_, s43_, s44_⟩
          go_simp
          with_reducible rfl
        rotate_left
        · simp only [Act.put, List.setIfInBounds_toArray, List.set_cons_zero, List.set_cons_succ]
          rfl
        refine take_ (i := 60) (N := some 95) (v := ?_) (a' := ?_) #[true, true, true, true, true, true, true, true, true, true, true, true, true, true, true, true, true, true, true, true, true, true, true, true, true, true, true, true, true, true, true, true, true, true, true, true, true, true, true, true, true, true, true, true, true, true, true, true, true, true, true, true, true, true, true, true, true, true, false, false, true, false, false, false] rfl rfl (by as_aux_lemma => kernel_rfl) (fun _ _ _ h => h) (Or.inl ⟨by rfl, ?_⟩) hHeld ?_ ?_
        rotate_left
        · rintro w' ⟨s0_, s1_, s2_, s3_, s4_, s5_, s6_, s7_, s8_, s9_, s10_, s11_, s12_, s13_, s14_, s15_, s16_, s17_, s18_, s19_, s20_, s21_, s22_, s23_, s24_, s25_, s26_, s27_, s28_, s29_, s30_, s31_, s32_, s33_, s34_, s35_, s36_, s37_, s38_, s39_, s40_, s41_, s42_, s43_, s44_⟩
          go_simp
          with_reducible rfl
        rotate_left
        · simp only [Act.put, List.setIfInBounds_toArray, List.set_cons_zero, List.set_cons_succ]
          rfl
        refine one_ (i := 58) (N := some 93) #[true, true, true, true, true, true, true, true, true, true, true, true, true, true, true, true, true, true, true, true, true, true, true, true, true, true, true, true, true, true, true, true, true, true, true, true, true, true, true, true, true, true, true, true, true, true, true, true, true, true, true, true, true, true, true, true, true, true, true, false, true, false, false, false] rfl rfl (by as_aux_lemma => kernel_rfl) (by decide) (fun K hK => ?_)
        refine value_ (v := ?_) (w1 := ?_) (by rfl) rfl ?_ ?_
        rotate_left 2
        · go_simp
          first | rfl | (constructor <;> rfl)
        have BL := Blk.new w19 26 #[.bool a0, .int .i64 a1, .bool a2, .int .u64 a3, .int .i64 a4, .int .i64 a5, .bool a6, .int .u64 a7, .int .i64 a8, .bool a0, .int .i64 a1, .bool a2, .int .u64 a3, .int .i64 a4, .int .i64 a5, .bool a6, .int .u64 a7, .int .i64 a8]
        have BA := BA.alloc (.cells #[.bool a0, .int .i64 a1, .bool a2, .int .u64 a3, .int .i64 a4, .int .i64 a5, .bool a6, .int .u64 a7, .int .i64 a8, .bool a0, .int .i64 a1, .bool a2, .int .u64 a3, .int .i64 a4, .int .i64 a5, .bool a6, .int .u64 a7, .int .i64 a8] 26)
        have BB := BB.alloc (.cells #[.bool a0, .int .i64 a1, .bool a2, .int .u64 a3, .int .i64 a4, .int .i64 a5, .bool a6, .int .u64 a7, .int .i64 a8, .bool a0, .int .i64 a1, .bool a2, .int .u64 a3, .int .i64 a4, .int .i64 a5, .bool a6, .int .u64 a7, .int .i64 a8] 26)
        have BC := BC.alloc (.cells #[.bool a0, .int .i64 a1, .bool a2, .int .u64 a3, .int .i64 a4, .int .i64 a5, .bool a6, .int .u64 a7, .int .i64 a8, .bool a0, .int .i64 a1, .bool a2, .int .u64 a3, .int .i64 a4, .int .i64 a5, .bool a6, .int .u64 a7, .int .i64 a8] 26)
        have BM := BM.alloc (.cells #[.bool a0, .int .i64 a1, .bool a2, .int .u64 a3, .int .i64 a4, .int .i64 a5, .bool a6, .int .u64 a7, .int .i64 a8, .bool a0, .int .i64 a1, .bool a2, .int .u64 a3, .int .i64 a4, .int .i64 a5, .bool a6, .int .u64 a7, .int .i64 a8] 26)
        have BH := BH.alloc (.cells #[.bool a0, .int .i64 a1, .bool a2, .int .u64 a3, .int .i64 a4, .int .i64 a5, .bool a6, .int .u64 a7, .int .i64 a8, .bool a0, .int .i64 a1, .bool a2, .int .u64 a3, .int .i64 a4, .int .i64 a5, .bool a6, .int .u64 a7, .int .i64 a8] 26)
        have HB := bl_alloc HB (.cells #[.bool a0, .int .i64 a1, .bool a2, .int .u64 a3, .int .i64 a4, .int .i64 a5, .bool a6, .int .u64 a7, .int .i64 a8, .bool a0, .int .i64 a1, .bool a2, .int .u64 a3, .int .i64 a4, .int .i64 a5, .bool a6, .int .u64 a7, .int .i64 a8] 26)
        refine hK.out _ _ ⟨BA.cell 0, BA.cell 1, BA.cell 2, BA.cell 3, BA.cell 4, BA.cell 5, BA.cell 6, BA.cell 7, BA.cell 8, BB.cell 0, BB.cell 1, BB.cell 2, BB.cell 3, BB.cell 4, BB.cell 5, BB.cell 6, BB.cell 7, BB.cell 8, BC.cell 0, BC.cell 1, BC.cell 2, BC.cell 3, BC.cell 4, BC.cell 5, BC.cell 6, BC.cell 7, BC.cell 8, BM.cell 0, BM.cell 1, BM.cell 2, BM.cell 3, BM.cell 4, BM.cell 5, BM.cell 6, BM.cell 7, BM.cell 8, BH.cell 0, BH.cell 1, BH.cell 2, BH.cell 3, BH.cell 4, BH.cell 5, BH.cell 6, BH.cell 7, BH.cell 8⟩ (fun hHeld => ?_)
        clear hK K
        refine norm_ (a' := ?_) ?_ ?_
        rotate_left
        · show Act.put _ (some 93) _ = _
          simp only [Act.put, List.setIfInBounds_toArray, List.set_cons_zero, List.set_cons_succ]
          rfl
        refine one_ (i := 59) (N := some 94) #[true, true, true, true, true, true, true, true, true, true, true, true, true, true, true, true, true, true, true, true, true, true, true, true, true, true, true, true, true, true, true, true, true, true, true, true, true, true, true, true, true, true, true, true, true, true, true, true, true, true, true, true, true, true, true, true, true, true, true, true, true, false, false, false] rfl rfl (by as_aux_lemma => kernel_rfl) (by decide) (fun K hK => ?_)
        refine goes_ Try.func16 (by kernel_rfl) rfl #[.slice (some ⟨w19.heap.size, 0, none⟩) 2 2] (by rfl) rfl rfl (by simp only [List.map_toArray, List.map_cons, List.map_nil] <;> rfl) ?_
        with_reducible refine (HMM.out _ _ (SlI.lit2 (x := ⟨a0, ⟨a1, a2, a3, a4⟩, ⟨a5, a6, a7, a8⟩⟩) (y := ⟨a0, ⟨a1, a2, a3, a4⟩, ⟨a5, a6, a7, a8⟩⟩) BL BL.lt)).mono ?_
        rintro e w20 ⟨rfl, hb⟩
        refine ⟨_, rfl, ?_⟩
        have BA := BA.call hb
        have BB := BB.call hb
        have BC := BC.call hb
        have BM := BM.call hb
        have BH := BH.call hb
        have HB := bl_trans HB hb
        refine hK.out _ _ ⟨BA.cell 0, BA.cell 1, BA.cell 2, BA.cell 3, BA.cell 4, BA.cell 5, BA.cell 6, BA.cell 7, BA.cell 8, BB.cell 0, BB.cell 1, BB.cell 2, BB.cell 3, BB.cell 4, BB.cell 5, BB.cell 6, BB.cell 7, BB.cell 8, BC.cell 0, BC.cell 1, BC.cell 2, BC.cell 3, BC.cell 4, BC.cell 5, BC.cell 6, BC.cell 7, BC.cell 8, BM.cell 0, BM.cell 1, BM.cell 2, BM.cell 3, BM.cell 4, BM.cell 5, BM.cell 6, BM.cell 7, BM.cell 8, BH.cell 0, BH.cell 1, BH.cell 2, BH.cell 3, BH.cell 4, BH.cell 5, BH.cell 6, BH.cell 7, BH.cell 8⟩ (fun hHeld => ?_)
        clear hK K hb
        refine norm_ (a' := ?_) ?_ ?_
        rotate_left
        · show Act.put _ (some 94) _ = _
          simp only [Act.put, List.setIfInBounds_toArray, List.set_cons_zero, List.set_cons_succ]
          rfl
        refine pure_ (i := 61) (N := some 96) (v := ?_) (a' := ?_) #[true, true, true, true, true, true, true, true, true, true, true, true, true, true, true, true, true, true, true, true, true, true, true, true, true, true, true, true, true, true, true, true, true, true, true, true, true, true, true, true, true, true, true, true, true, true, true, true, true, true, true, true, true, true, true, true, true, true, true, true, true, true, false, false] rfl rfl (by as_aux_lemma => kernel_rfl) (fun _ _ _ h => h) (Or.inl ⟨by rfl, ?_⟩) ?_ ?_
        rotate_left
        · intro w'
          go_simp
          with_reducible rfl
        rotate_left
        · simp only [Act.put, List.setIfInBounds_toArray, List.set_cons_zero, List.set_cons_succ]
          rfl
        refine pure_ (i := 62) (N := some 97) (v := ?_) (a' := ?_) #[true, true, true, true, true, true, true, true, true, true, true, true, true, true, true, true, true, true, true, true, true, true, true, true, true, true, true, true, true, true, true, true, true, true, true, true, true, true, true, true, true, true, true, true, true, true, true, true, true, true, true, true, true, true, true, true, true, true, true, true, true, true, true, false] rfl rfl (by as_aux_lemma => kernel_rfl) (fun _ _ _ h => h) (Or.inl ⟨by rfl, ?_⟩) ?_ ?_
        rotate_left
        · intro w'
          go_simp
          with_reducible rfl
        rotate_left
        · simp only [Act.put, List.setIfInBounds_toArray, List.set_cons_zero, List.set_cons_succ]
          rfl
        refine pure_ (i := 63) (N := some 6) (v := ?_) (a' := ?_) #[true, true, true, true, true, true, true, true, true, true, true, true, true, true, true, true, true, true, true, true, true, true, true, true, true, true, true, true, true, true, true, true, true, true, true, true, true, true, true, true, true, true, true, true, true, true, true, true, true, true, true, true, true, true, true, true, true, true, true, true, true, true, true, true] rfl rfl (by as_aux_lemma => kernel_rfl) (fun _ _ _ h => h) (Or.inl ⟨by rfl, ?_⟩) ?_ ?_
        rotate_left
        · intro w'
          go_simp
          with_reducible rfl
        rotate_left
        · simp only [Act.put, List.setIfInBounds_toArray, List.set_cons_zero, List.set_cons_succ]
          rfl
        refine done_ (by as_aux_lemma => kernel_rfl) ?_
        go_wp2
        go_ret
        exact ⟨rfl, HB⟩
end Go.Proofs.Ytakajahogjeiaab.Wk
