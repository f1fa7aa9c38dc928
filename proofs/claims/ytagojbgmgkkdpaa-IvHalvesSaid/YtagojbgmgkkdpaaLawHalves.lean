/- Walk: peloruslaw08.IvHalves returns true, for every input. -/
import Derived.Test.YtagojbgmgkkdpaaAw08
import Derived.Test.YtagojbgmgkkdpaaArZ
namespace Go.Proofs.Ytagojbgmgkkdpaa.Wk
open Go.RowKit Go.Proofs.Pl Go.Proofs.YtagojbgmgkkdpaaW.PrintLast
set_option linter.unusedSimpArgs false
set_option linter.unusedVariables false

set_option maxRecDepth 100000 in
set_option maxHeartbeats 8000000 in
theorem ivHalves_calls (x0 : Bool) (x1 : Int) (x2 : Bool) (x3 x4 x5 : Int) (x6 : Bool) (x7 x8 : Int) (w : World) (wx : WfIv ⟨x0, ⟨x1, x2, x3, x4⟩, ⟨x5, x6, x7, x8⟩⟩) :
    Calls Try.prog 4 #[.agg #[.bool x0, .int .i64 x1, .bool x2, .int .u64 x3, .int .i64 x4, .int .i64 x5, .bool x6, .int .u64 x7, .int .i64 x8]] w fun e w' => e = .returned (.bool true) ∧ Below w.heap.size w w' := by
  have HX := Lib.hid (fun W => mayI_calls x0 x1 x2 x3 x4 x5 x6 x7 x8 W)
  have HL := Lib.hid (fun p q => law_halves ⟨x0, ⟨x1, x2, x3, x4⟩, ⟨x5, x6, x7, x8⟩⟩ p q wx)
  have X0 := Blk.new w 26 #[.bool x0, .int .i64 x1, .bool x2, .int .u64 x3, .int .i64 x4, .int .i64 x5, .bool x6, .int .u64 x7, .int .i64 x8]
  have HB0 := bl_alloc (Below.refl w.heap.size w) (.cells #[.bool x0, .int .i64 x1, .bool x2, .int .u64 x3, .int .i64 x4, .int .i64 x5, .bool x6, .int .u64 x7, .int .i64 x8] 26)
  have wM : ∀ (p : mayI ⟨x0, ⟨x1, x2, x3, x4⟩, ⟨x5, x6, x7, x8⟩⟩ = true) (q : x0 = false), WfIv (splitA ⟨x0, ⟨x1, x2, x3, x4⟩, ⟨x5, x6, x7, x8⟩⟩) := fun p q => by
    obtain ⟨e1, e2, f1, f2⟩ := split_spec wx ⟨p, q⟩
    rw [e1]; exact ⟨wx.1, (mid_spec wx ⟨p, q⟩).2.1⟩
  have WM := Lib.hid wM
  clear wM
  cases hm : mayI ⟨x0, ⟨x1, x2, x3, x4⟩, ⟨x5, x6, x7, x8⟩⟩
  · rw [hm] at HX
    clear HL WM hm
    go_enter Try.func4, Try.ntmps4
    go_wp2_with (first
      | (go_at_call 13; (refine (awake08_calls _).mono ?_); rintro e' w1 ⟨rfl, hb⟩; have X1 := X0.call hb; have HB1 := bl_trans HB0 hb; clear hb; obtain ⟨⟨p0, p1, p2, p3, p4, p5, p6, p7, p8⟩, _⟩ := X1.c9)
      | (go_at_call 14; (refine (HX.out _).mono ?_); rintro e' w2 ⟨rfl, hb⟩; have HB2 := bl_trans HB1 hb; clear hb))
    go_ret
    exact ⟨rfl, HB2⟩
  · rw [hm] at HX
    cases x0
    · obtain ⟨q1, q2, q3, q4, q5, q6⟩ := HL.out hm rfl
      have wy := WM.out hm rfl
      have HM := Lib.hid (fun W => midI_calls false x1 x2 x3 x4 x5 x6 x7 x8 wx W)
      have HS := Lib.hid (fun W => splitI_calls false x1 x2 x3 x4 x5 x6 x7 x8 wx W)
      have HWX := Lib.hid (fun W => widthI_calls false x1 x2 x3 x4 x5 x6 x7 x8 wx W)
      generalize midI ⟨false, ⟨x1, x2, x3, x4⟩, ⟨x5, x6, x7, x8⟩⟩ = m at HM q1 q2 q3 q5
      generalize splitA ⟨false, ⟨x1, x2, x3, x4⟩, ⟨x5, x6, x7, x8⟩⟩ = y at HS q2 q4 q5 q6 wy
      generalize splitB ⟨false, ⟨x1, x2, x3, x4⟩, ⟨x5, x6, x7, x8⟩⟩ = z at HS q3 q4 q5
      generalize widthI ⟨false, ⟨x1, x2, x3, x4⟩, ⟨x5, x6, x7, x8⟩⟩ = f at HWX q6
      obtain ⟨m0, m1, m2, m3⟩ := m
      obtain ⟨y0, ⟨y1, y2, y3, y4⟩, ⟨y5, y6, y7, y8⟩⟩ := y
      obtain ⟨z0, ⟨z1, z2, z3, z4⟩, ⟨z5, z6, z7, z8⟩⟩ := z
      obtain ⟨f0, f1, f2, f3⟩ := f
      have HWY := Lib.hid (fun W => widthI_calls y0 y1 y2 y3 y4 y5 y6 y7 y8 wy W)
      generalize widthI _ = d at HWY q6
      obtain ⟨d0, d1, d2, d3⟩ := d
      have HH1 := Lib.hid (fun W => hasI_calls false x1 x2 x3 x4 x5 x6 x7 x8 m0 m1 m2 m3 W)
      have HH2 := Lib.hid (fun W => hasI_calls y0 y1 y2 y3 y4 y5 y6 y7 y8 m0 m1 m2 m3 W)
      have HH3 := Lib.hid (fun W => hasI_calls z0 z1 z2 z3 z4 z5 z6 z7 z8 m0 m1 m2 m3 W)
      have HU := Lib.hid (fun A W (h : SlI W W.heap.size A 2 [⟨y0, ⟨y1, y2, y3, y4⟩, ⟨y5, y6, y7, y8⟩⟩, ⟨z0, ⟨z1, z2, z3, z4⟩, ⟨z5, z6, z7, z8⟩⟩]) => hullI_calls A 2 2 _ W h (by omega))
      have HE := Lib.hid (fun A W (h : SlI W W.heap.size A 2 [⟨y0, ⟨y1, y2, y3, y4⟩, ⟨y5, y6, y7, y8⟩⟩, ⟨z0, ⟨z1, z2, z3, z4⟩, ⟨z5, z6, z7, z8⟩⟩]) => meetI_calls A 2 2 _ W h (by omega))
      have HP := Lib.hid (fun W => pointI_calls m0 m1 m2 m3 W)
      have HC := Lib.hid (fun W => cmpN_calls d0 d1 d2 d3 f0 f1 f2 f3 W)
      rw [q1] at HH1
      rw [q2] at HH2
      rw [q3] at HH3
      rw [q4] at HU
      rw [q5] at HE
      generalize pointI ⟨m0, m1, m2, m3⟩ = t at HP HE
      generalize cmpN ⟨d0, d1, d2, d3⟩ ⟨f0, f1, f2, f3⟩ = c at HC q6
      obtain ⟨t0, ⟨t1, t2, t3, t4⟩, ⟨t5, t6, t7, t8⟩⟩ := t
      dsimp only at HM HS HWX HWY HU HE HP
      have hc : c ≤ 0 := by omega
      clear q1 q2 q3 q4 q5 q6 wy wx WM HL hm
      go_enter Try.func4, Try.ntmps4
      go_wp2_with (first
        | (go_at_call 13; (refine (awake08_calls _).mono ?_); rintro e' w1 ⟨rfl, hb⟩; have X1 := X0.call hb; have HB1 := bl_trans HB0 hb; clear hb; obtain ⟨⟨p0, p1, p2, p3, p4, p5, p6, p7, p8⟩, _⟩ := X1.c9)
        | (go_at_call 14; (refine (HX.out _).mono ?_); rintro e' w2 ⟨rfl, hb⟩; have X2 := X1.call hb; have HB2 := bl_trans HB1 hb; clear hb p0 p1 p2 p3 p4 p5 p6 p7 p8; obtain ⟨⟨p0, p1, p2, p3, p4, p5, p6, p7, p8⟩, _⟩ := X2.c9)
        | (go_at_call 19; (refine (HM.out _).mono ?_); rintro e' w3 ⟨rfl, hb⟩; have X3 := X2.call hb; have HB3 := bl_trans HB2 hb; have hx3 := X3.lt; clear hb p0 p1 p2 p3 p4 p5 p6 p7 p8)
        | (refine wpList_stG rfl 24 (.tmp 4) (.tmp 17) rfl w3.heap.size _ #[.int .i64 m0, .bool m1, .int .u64 m2, .int .i64 m3] (Blk.new w3 _ _) rfl rfl (by kernel_rfl) rfl (by simp [Value.oneCell']) ?_; intro W4 M4 P4; have X4 := P4.blk (X3.alloc _) (by omega); have HB4 := P4.bel (bl_alloc HB3 _) (by omega); obtain ⟨⟨p0, p1, p2, p3, p4, p5, p6, p7, p8⟩, _⟩ := X4.c9)
        | (go_at_call 20; (refine (HS.out _).mono ?_); rintro e' w5 ⟨rfl, hb⟩; have X5 := X4.call hb; have M5 := M4.call hb; have HB5 := bl_trans HB4 hb; have hx5 := X5.lt; have hm5 := M5.lt; clear hb p0 p1 p2 p3 p4 p5 p6 p7 p8)
        | (refine wpList_stG rfl 26 (.tmp 5) (.tmp 21) rfl w5.heap.size _ #[.bool y0, .int .i64 y1, .bool y2, .int .u64 y3, .int .i64 y4, .int .i64 y5, .bool y6, .int .u64 y7, .int .i64 y8] ((Blk.new w5 _ _).alloc _) rfl rfl (by kernel_rfl) rfl (by simp [Value.oneCell']) ?_; intro W6 Y6 P6; have X6 := P6.blk ((X5.alloc _).alloc _) (by omega); have M6 := P6.blk ((M5.alloc _).alloc _) (by omega); have Z6 := P6.blk (Blk.new1 w5 _ _ _) (by omega); have HB6 := P6.bel (bl_alloc (bl_alloc HB5 _) _) (by omega))
        | (refine wpList_stG rfl 26 (.tmp 6) (.tmp 22) rfl (w5.heap.size + 1) _ #[.bool z0, .int .i64 z1, .bool z2, .int .u64 z3, .int .i64 z4, .int .i64 z5, .bool z6, .int .u64 z7, .int .i64 z8] Z6 rfl rfl (by kernel_rfl) rfl (by simp [Value.oneCell']) ?_; intro W8 Z8 P8; have X8 := P8.blk X6 (by omega); have M8 := P8.blk M6 (by omega); have Y8 := P8.blk Y6 (by omega); have HB8 := P8.bel HB6 (by omega)))
      replace X8 := X8.drew
      replace M8 := M8.drew
      replace Y8 := Y8.drew
      replace Z8 := Z8.drew
      replace HB8 := bl_drew HB8
      have e3 := fun W => run_eqIv W false false x1 x1 x2 x2 x3 x3 x4 x4 x5 x5 x6 x6 x7 x7 x8 x8
      have e4 := fun W => run_eqIv W t0 t0 t1 t1 t2 t2 t3 t3 t4 t4 t5 t5 t6 t6 t7 t7 t8 t8
      rw [decide_eq_true rfl] at e3 e4
      refine start_ (n := 42) (S := fun w' => w'.cell? ⟨w.heap.size, 0, none⟩ = some (.bool false) ∧ w'.cell? ⟨w.heap.size, 1, none⟩ = some (.int .i64 x1) ∧ w'.cell? ⟨w.heap.size, 2, none⟩ = some (.bool x2) ∧ w'.cell? ⟨w.heap.size, 3, none⟩ = some (.int .u64 x3) ∧ w'.cell? ⟨w.heap.size, 4, none⟩ = some (.int .i64 x4) ∧ w'.cell? ⟨w.heap.size, 5, none⟩ = some (.int .i64 x5) ∧ w'.cell? ⟨w.heap.size, 6, none⟩ = some (.bool x6) ∧ w'.cell? ⟨w.heap.size, 7, none⟩ = some (.int .u64 x7) ∧ w'.cell? ⟨w.heap.size, 8, none⟩ = some (.int .i64 x8) ∧ w'.cell? ⟨w3.heap.size, 0, none⟩ = some (.int .i64 m0) ∧ w'.cell? ⟨w3.heap.size, 1, none⟩ = some (.bool m1) ∧ w'.cell? ⟨w3.heap.size, 2, none⟩ = some (.int .u64 m2) ∧ w'.cell? ⟨w3.heap.size, 3, none⟩ = some (.int .i64 m3) ∧ w'.cell? ⟨w5.heap.size, 0, none⟩ = some (.bool y0) ∧ w'.cell? ⟨w5.heap.size, 1, none⟩ = some (.int .i64 y1) ∧ w'.cell? ⟨w5.heap.size, 2, none⟩ = some (.bool y2) ∧ w'.cell? ⟨w5.heap.size, 3, none⟩ = some (.int .u64 y3) ∧ w'.cell? ⟨w5.heap.size, 4, none⟩ = some (.int .i64 y4) ∧ w'.cell? ⟨w5.heap.size, 5, none⟩ = some (.int .i64 y5) ∧ w'.cell? ⟨w5.heap.size, 6, none⟩ = some (.bool y6) ∧ w'.cell? ⟨w5.heap.size, 7, none⟩ = some (.int .u64 y7) ∧ w'.cell? ⟨w5.heap.size, 8, none⟩ = some (.int .i64 y8) ∧ w'.cell? ⟨(w5.heap.size + 1), 0, none⟩ = some (.bool z0) ∧ w'.cell? ⟨(w5.heap.size + 1), 1, none⟩ = some (.int .i64 z1) ∧ w'.cell? ⟨(w5.heap.size + 1), 2, none⟩ = some (.bool z2) ∧ w'.cell? ⟨(w5.heap.size + 1), 3, none⟩ = some (.int .u64 z3) ∧ w'.cell? ⟨(w5.heap.size + 1), 4, none⟩ = some (.int .i64 z4) ∧ w'.cell? ⟨(w5.heap.size + 1), 5, none⟩ = some (.int .i64 z5) ∧ w'.cell? ⟨(w5.heap.size + 1), 6, none⟩ = some (.bool z6) ∧ w'.cell? ⟨(w5.heap.size + 1), 7, none⟩ = some (.int .u64 z7) ∧ w'.cell? ⟨(w5.heap.size + 1), 8, none⟩ = some (.int .i64 z8)) (ds := []) #[false, false, false, false, false, false, false, false, false, false, false, false, false, false, false, false, false, false, false, false, false, false, false, false, false, false, false, false, false, false, false, false, false, false, false, false, false, false, false, false, false, false] (by kernel_rfl) rfl rfl ⟨X8.cell 0, X8.cell 1, X8.cell 2, X8.cell 3, X8.cell 4, X8.cell 5, X8.cell 6, X8.cell 7, X8.cell 8, M8.cell 0, M8.cell 1, M8.cell 2, M8.cell 3, Y8.cell 0, Y8.cell 1, Y8.cell 2, Y8.cell 3, Y8.cell 4, Y8.cell 5, Y8.cell 6, Y8.cell 7, Y8.cell 8, Z8.cell 0, Z8.cell 1, Z8.cell 2, Z8.cell 3, Z8.cell 4, Z8.cell 5, Z8.cell 6, Z8.cell 7, Z8.cell 8⟩ (fun hHeld => ?_)
      generalize W8.drew = W9 at X8 M8 Y8 Z8 HB8 hHeld ⊢
      refine pure_ (i := 0) (N := some 23) (v := ?_) (a' := ?_) #[true, false, false, false, false, false, false, false, false, false, false, false, false, false, false, false, false, false, false, false, false, false, false, false, false, false, false, false, false, false, false, false, false, false, false, false, false, false, false, false, false, false] rfl rfl (by kernel_rfl) (fun _ _ _ h => h) (Or.inl ⟨by rfl, ?_⟩) ?_ ?_
      rotate_left
      · intro w'
        go_simp
        with_reducible rfl
      rotate_left
      · simp only [Act.put, List.setIfInBounds_toArray, List.set_cons_zero, List.set_cons_succ]
        rfl
      refine pure_ (i := 1) (N := some 24) (v := ?_) (a' := ?_) #[true, true, false, false, false, false, false, false, false, false, false, false, false, false, false, false, false, false, false, false, false, false, false, false, false, false, false, false, false, false, false, false, false, false, false, false, false, false, false, false, false, false] rfl rfl (by kernel_rfl) (fun _ _ _ h => h) (Or.inl ⟨by rfl, ?_⟩) ?_ ?_
      rotate_left
      · intro w'
        go_simp
        with_reducible rfl
      rotate_left
      · simp only [Act.put, List.setIfInBounds_toArray, List.set_cons_zero, List.set_cons_succ]
        rfl
      refine take_ (i := 2) (N := some 25) (v := ?_) (a' := ?_) #[true, true, true, false, false, false, false, false, false, false, false, false, false, false, false, false, false, false, false, false, false, false, false, false, false, false, false, false, false, false, false, false, false, false, false, false, false, false, false, false, false, false] rfl rfl (by kernel_rfl) (fun _ _ _ h => h) (Or.inl ⟨by rfl, ?_⟩) hHeld ?_ ?_
      rotate_left
      · rintro w' ⟨s0_, s1_, s2_, s3_, s4_, s5_, s6_, s7_, s8_, s9_, s10_, s11_, s12_, s13_, s14_, s15_, s16_, s17_, s18_, s19_, s20_, s21_, s22_, s23_, s24_, s25_, s26_, s27_, s28_, s29_, s30_⟩
        go_simp
        with_reducible rfl
      rotate_left
      · simp only [Act.put, List.setIfInBounds_toArray, List.set_cons_zero, List.set_cons_succ]
        rfl
      refine take_ (i := 3) (N := some 26) (v := ?_) (a' := ?_) #[true, true, true, true, false, false, false, false, false, false, false, false, false, false, false, false, false, false, false, false, false, false, false, false, false, false, false, false, false, false, false, false, false, false, false, false, false, false, false, false, false, false] rfl rfl (by kernel_rfl) (fun _ _ _ h => h) (Or.inl ⟨by rfl, ?_⟩) hHeld ?_ ?_
      rotate_left
      · rintro w' ⟨s0_, s1_, s2_, s3_, s4_, s5_, s6_, s7_, s8_, s9_, s10_, s11_, s12_, s13_, s14_, s15_, s16_, s17_, s18_, s19_, s20_, s21_, s22_, s23_, s24_, s25_, s26_, s27_, s28_, s29_, s30_⟩
        go_simp
        with_reducible rfl
      rotate_left
      · simp only [Act.put, List.setIfInBounds_toArray, List.set_cons_zero, List.set_cons_succ]
        rfl
      refine one_ (i := 4) (N := some 27) #[true, true, true, true, true, false, false, false, false, false, false, false, false, false, false, false, false, false, false, false, false, false, false, false, false, false, false, false, false, false, false, false, false, false, false, false, false, false, false, false, false, false] rfl rfl (by kernel_rfl) (by decide) (fun K hK => ?_)
      refine goes_ Try.func21 (by kernel_rfl) rfl #[.agg #[.bool false, .int .i64 x1, .bool x2, .int .u64 x3, .int .i64 x4, .int .i64 x5, .bool x6, .int .u64 x7, .int .i64 x8], .agg #[.int .i64 m0, .bool m1, .int .u64 m2, .int .i64 m3]] (by rfl) rfl rfl (by simp only [List.map_toArray, List.map_cons, List.map_nil] <;> rfl) ?_
      with_reducible refine (HH1.out _).mono ?_
      rintro e w11 ⟨rfl, hb⟩
      refine ⟨_, rfl, ?_⟩
      have X8 := X8.call hb
      have M8 := M8.call hb
      have Y8 := Y8.call hb
      have Z8 := Z8.call hb
      have HB8 := bl_trans HB8 hb
      refine hK.out _ _ ⟨X8.cell 0, X8.cell 1, X8.cell 2, X8.cell 3, X8.cell 4, X8.cell 5, X8.cell 6, X8.cell 7, X8.cell 8, M8.cell 0, M8.cell 1, M8.cell 2, M8.cell 3, Y8.cell 0, Y8.cell 1, Y8.cell 2, Y8.cell 3, Y8.cell 4, Y8.cell 5, Y8.cell 6, Y8.cell 7, Y8.cell 8, Z8.cell 0, Z8.cell 1, Z8.cell 2, Z8.cell 3, Z8.cell 4, Z8.cell 5, Z8.cell 6, Z8.cell 7, Z8.cell 8⟩ (fun hHeld => ?_)
      clear hK K hb
      refine norm_ (a' := ?_) ?_ ?_
      rotate_left
      · show Act.put _ (some 27) _ = _
        simp only [Act.put, List.setIfInBounds_toArray, List.set_cons_zero, List.set_cons_succ]
        rfl
      refine pure_ (i := 5) (N := some 28) (v := ?_) (a' := ?_) #[true, true, true, true, true, true, false, false, false, false, false, false, false, false, false, false, false, false, false, false, false, false, false, false, false, false, false, false, false, false, false, false, false, false, false, false, false, false, false, false, false, false] rfl rfl (by kernel_rfl) (fun _ _ _ h => h) (Or.inl ⟨by rfl, ?_⟩) ?_ ?_
      rotate_left
      · intro w'
        go_simp
        with_reducible rfl
      rotate_left
      · simp only [Act.put, List.setIfInBounds_toArray, List.set_cons_zero, List.set_cons_succ]
        rfl
      refine pure_ (i := 6) (N := some 29) (v := ?_) (a' := ?_) #[true, true, true, true, true, true, true, false, false, false, false, false, false, false, false, false, false, false, false, false, false, false, false, false, false, false, false, false, false, false, false, false, false, false, false, false, false, false, false, false, false, false] rfl rfl (by kernel_rfl) (fun _ _ _ h => h) (Or.inl ⟨by rfl, ?_⟩) ?_ ?_
      rotate_left
      · intro w'
        go_simp
        with_reducible rfl
      rotate_left
      · simp only [Act.put, List.setIfInBounds_toArray, List.set_cons_zero, List.set_cons_succ]
        rfl
      refine take_ (i := 7) (N := some 30) (v := ?_) (a' := ?_) #[true, true, true, true, true, true, true, true, false, false, false, false, false, false, false, false, false, false, false, false, false, false, false, false, false, false, false, false, false, false, false, false, false, false, false, false, false, false, false, false, false, false] rfl rfl (by kernel_rfl) (fun _ _ _ h => h) (Or.inl ⟨by rfl, ?_⟩) hHeld ?_ ?_
      rotate_left
      · rintro w' ⟨s0_, s1_, s2_, s3_, s4_, s5_, s6_, s7_, s8_, s9_, s10_, s11_, s12_, s13_, s14_, s15_, s16_, s17_, s18_, s19_, s20_, s21_, s22_, s23_, s24_, s25_, s26_, s27_, s28_, s29_, s30_⟩
        go_simp
        with_reducible rfl
      rotate_left
      · simp only [Act.put, List.setIfInBounds_toArray, List.set_cons_zero, List.set_cons_succ]
        rfl
      refine take_ (i := 8) (N := some 31) (v := ?_) (a' := ?_) #[true, true, true, true, true, true, true, true, true, false, false, false, false, false, false, false, false, false, false, false, false, false, false, false, false, false, false, false, false, false, false, false, false, false, false, false, false, false, false, false, false, false] rfl rfl (by kernel_rfl) (fun _ _ _ h => h) (Or.inl ⟨by rfl, ?_⟩) hHeld ?_ ?_
      rotate_left
      · rintro w' ⟨s0_, s1_, s2_, s3_, s4_, s5_, s6_, s7_, s8_, s9_, s10_, s11_, s12_, s13_, s14_, s15_, s16_, s17_, s18_, s19_, s20_, s21_, s22_, s23_, s24_, s25_, s26_, s27_, s28_, s29_, s30_⟩
        go_simp
        with_reducible rfl
      rotate_left
      · simp only [Act.put, List.setIfInBounds_toArray, List.set_cons_zero, List.set_cons_succ]
        rfl
      refine one_ (i := 9) (N := some 32) #[true, true, true, true, true, true, true, true, true, true, false, false, false, false, false, false, false, false, false, false, false, false, false, false, false, false, false, false, false, false, false, false, false, false, false, false, false, false, false, false, false, false] rfl rfl (by kernel_rfl) (by decide) (fun K hK => ?_)
      refine goes_ Try.func21 (by kernel_rfl) rfl #[.agg #[.bool y0, .int .i64 y1, .bool y2, .int .u64 y3, .int .i64 y4, .int .i64 y5, .bool y6, .int .u64 y7, .int .i64 y8], .agg #[.int .i64 m0, .bool m1, .int .u64 m2, .int .i64 m3]] (by rfl) rfl rfl (by simp only [List.map_toArray, List.map_cons, List.map_nil] <;> rfl) ?_
      with_reducible refine (HH2.out _).mono ?_
      rintro e w12 ⟨rfl, hb⟩
      refine ⟨_, rfl, ?_⟩
      have X8 := X8.call hb
      have M8 := M8.call hb
      have Y8 := Y8.call hb
      have Z8 := Z8.call hb
      have HB8 := bl_trans HB8 hb
      refine hK.out _ _ ⟨X8.cell 0, X8.cell 1, X8.cell 2, X8.cell 3, X8.cell 4, X8.cell 5, X8.cell 6, X8.cell 7, X8.cell 8, M8.cell 0, M8.cell 1, M8.cell 2, M8.cell 3, Y8.cell 0, Y8.cell 1, Y8.cell 2, Y8.cell 3, Y8.cell 4, Y8.cell 5, Y8.cell 6, Y8.cell 7, Y8.cell 8, Z8.cell 0, Z8.cell 1, Z8.cell 2, Z8.cell 3, Z8.cell 4, Z8.cell 5, Z8.cell 6, Z8.cell 7, Z8.cell 8⟩ (fun hHeld => ?_)
      clear hK K hb
      refine norm_ (a' := ?_) ?_ ?_
      rotate_left
      · show Act.put _ (some 32) _ = _
        simp only [Act.put, List.setIfInBounds_toArray, List.set_cons_zero, List.set_cons_succ]
        rfl
      refine pure_ (i := 10) (N := some 33) (v := ?_) (a' := ?_) #[true, true, true, true, true, true, true, true, true, true, true, false, false, false, false, false, false, false, false, false, false, false, false, false, false, false, false, false, false, false, false, false, false, false, false, false, false, false, false, false, false, false] rfl rfl (by kernel_rfl) (fun _ _ _ h => h) (Or.inl ⟨by rfl, ?_⟩) ?_ ?_
      rotate_left
      · intro w'
        go_simp
        with_reducible rfl
      rotate_left
      · simp only [Act.put, List.setIfInBounds_toArray, List.set_cons_zero, List.set_cons_succ]
        rfl
      refine pure_ (i := 11) (N := some 34) (v := ?_) (a' := ?_) #[true, true, true, true, true, true, true, true, true, true, true, true, false, false, false, false, false, false, false, false, false, false, false, false, false, false, false, false, false, false, false, false, false, false, false, false, false, false, false, false, false, false] rfl rfl (by kernel_rfl) (fun _ _ _ h => h) (Or.inl ⟨by rfl, ?_⟩) ?_ ?_
      rotate_left
      · intro w'
        go_simp
        with_reducible rfl
      rotate_left
      · simp only [Act.put, List.setIfInBounds_toArray, List.set_cons_zero, List.set_cons_succ]
        rfl
      refine take_ (i := 12) (N := some 35) (v := ?_) (a' := ?_) #[true, true, true, true, true, true, true, true, true, true, true, true, true, false, false, false, false, false, false, false, false, false, false, false, false, false, false, false, false, false, false, false, false, false, false, false, false, false, false, false, false, false] rfl rfl (by kernel_rfl) (fun _ _ _ h => h) (Or.inl ⟨by rfl, ?_⟩) hHeld ?_ ?_
      rotate_left
      · rintro w' ⟨s0_, s1_, s2_, s3_, s4_, s5_, s6_, s7_, s8_, s9_, s10_, s11_, s12_, s13_, s14_, s15_, s16_, s17_, s18_, s19_, s20_, s21_, s22_, s23_, s24_, s25_, s26_, s27_, s28_, s29_, s30_⟩
        go_simp
        with_reducible rfl
      rotate_left
      · simp only [Act.put, List.setIfInBounds_toArray, List.set_cons_zero, List.set_cons_succ]
        rfl
      refine take_ (i := 13) (N := some 36) (v := ?_) (a' := ?_) #[true, true, true, true, true, true, true, true, true, true, true, true, true, true, false, false, false, false, false, false, false, false, false, false, false, false, false, false, false, false, false, false, false, false, false, false, false, false, false, false, false, false] rfl rfl (by kernel_rfl) (fun _ _ _ h => h) (Or.inl ⟨by rfl, ?_⟩) hHeld ?_ ?_
      rotate_left
      · rintro w' ⟨s0_, s1_, s2_, s3_, s4_, s5_, s6_, s7_, s8_, s9_, s10_, s11_, s12_, s13_, s14_, s15_, s16_, s17_, s18_, s19_, s20_, s21_, s22_, s23_, s24_, s25_, s26_, s27_, s28_, s29_, s30_⟩
        go_simp
        with_reducible rfl
      rotate_left
      · simp only [Act.put, List.setIfInBounds_toArray, List.set_cons_zero, List.set_cons_succ]
        rfl
      refine one_ (i := 14) (N := some 37) #[true, true, true, true, true, true, true, true, true, true, true, true, true, true, true, false, false, false, false, false, false, false, false, false, false, false, false, false, false, false, false, false, false, false, false, false, false, false, false, false, false, false] rfl rfl (by kernel_rfl) (by decide) (fun K hK => ?_)
      refine goes_ Try.func21 (by kernel_rfl) rfl #[.agg #[.bool z0, .int .i64 z1, .bool z2, .int .u64 z3, .int .i64 z4, .int .i64 z5, .bool z6, .int .u64 z7, .int .i64 z8], .agg #[.int .i64 m0, .bool m1, .int .u64 m2, .int .i64 m3]] (by rfl) rfl rfl (by simp only [List.map_toArray, List.map_cons, List.map_nil] <;> rfl) ?_
      with_reducible refine (HH3.out _).mono ?_
      rintro e w13 ⟨rfl, hb⟩
      refine ⟨_, rfl, ?_⟩
      have X8 := X8.call hb
      have M8 := M8.call hb
      have Y8 := Y8.call hb
      have Z8 := Z8.call hb
      have HB8 := bl_trans HB8 hb
      refine hK.out _ _ ⟨X8.cell 0, X8.cell 1, X8.cell 2, X8.cell 3, X8.cell 4, X8.cell 5, X8.cell 6, X8.cell 7, X8.cell 8, M8.cell 0, M8.cell 1, M8.cell 2, M8.cell 3, Y8.cell 0, Y8.cell 1, Y8.cell 2, Y8.cell 3, Y8.cell 4, Y8.cell 5, Y8.cell 6, Y8.cell 7, Y8.cell 8, Z8.cell 0, Z8.cell 1, Z8.cell 2, Z8.cell 3, Z8.cell 4, Z8.cell 5, Z8.cell 6, Z8.cell 7, Z8.cell 8⟩ (fun hHeld => ?_)
      clear hK K hb
      refine norm_ (a' := ?_) ?_ ?_
      rotate_left
      · show Act.put _ (some 37) _ = _
        simp only [Act.put, List.setIfInBounds_toArray, List.set_cons_zero, List.set_cons_succ]
        rfl
      refine pure_ (i := 15) (N := some 38) (v := ?_) (a' := ?_) #[true, true, true, true, true, true, true, true, true, true, true, true, true, true, true, true, false, false, false, false, false, false, false, false, false, false, false, false, false, false, false, false, false, false, false, false, false, false, false, false, false, false] rfl rfl (by kernel_rfl) (fun _ _ _ h => h) (Or.inl ⟨by rfl, ?_⟩) ?_ ?_
      rotate_left
      · intro w'
        go_simp
        with_reducible rfl
      rotate_left
      · simp only [Act.put, List.setIfInBounds_toArray, List.set_cons_zero, List.set_cons_succ]
        rfl
      refine pure_ (i := 16) (N := some 39) (v := ?_) (a' := ?_) #[true, true, true, true, true, true, true, true, true, true, true, true, true, true, true, true, true, false, false, false, false, false, false, false, false, false, false, false, false, false, false, false, false, false, false, false, false, false, false, false, false, false] rfl rfl (by kernel_rfl) (fun _ _ _ h => h) (Or.inl ⟨by rfl, ?_⟩) ?_ ?_
      rotate_left
      · intro w'
        go_simp
        with_reducible rfl
      rotate_left
      · simp only [Act.put, List.setIfInBounds_toArray, List.set_cons_zero, List.set_cons_succ]
        rfl
      refine take_ (i := 17) (N := some 40) (v := ?_) (a' := ?_) #[true, true, true, true, true, true, true, true, true, true, true, true, true, true, true, true, true, true, false, false, false, false, false, false, false, false, false, false, false, false, false, false, false, false, false, false, false, false, false, false, false, false] rfl rfl (by kernel_rfl) (fun _ _ _ h => h) (Or.inl ⟨by rfl, ?_⟩) hHeld ?_ ?_
      rotate_left
      · rintro w' ⟨s0_, s1_, s2_, s3_, s4_, s5_, s6_, s7_, s8_, s9_, s10_, s11_, s12_, s13_, s14_, s15_, s16_, s17_, s18_, s19_, s20_, s21_, s22_, s23_, s24_, s25_, s26_, s27_, s28_, s29_, s30_⟩
        go_simp
        with_reducible rfl
      rotate_left
      · simp only [Act.put, List.setIfInBounds_toArray, List.set_cons_zero, List.set_cons_succ]
        rfl
      refine take_ (i := 18) (N := some 41) (v := ?_) (a' := ?_) #[true, true, true, true, true, true, true, true, true, true, true, true, true, true, true, true, true, true, true, false, false, false, false, false, false, false, false, false, false, false, false, false, false, false, false, false, false, false, false, false, false, false] rfl rfl (by kernel_rfl) (fun _ _ _ h => h) (Or.inl ⟨by rfl, ?_⟩) hHeld ?_ ?_
      rotate_left
      · rintro w' ⟨s0_, s1_, s2_, s3_, s4_, s5_, s6_, s7_, s8_, s9_, s10_, s11_, s12_, s13_, s14_, s15_, s16_, s17_, s18_, s19_, s20_, s21_, s22_, s23_, s24_, s25_, s26_, s27_, s28_, s29_, s30_⟩
        go_simp
        with_reducible rfl
      rotate_left
      · simp only [Act.put, List.setIfInBounds_toArray, List.set_cons_zero, List.set_cons_succ]
        rfl
      refine take_ (i := 21) (N := some 44) (v := ?_) (a' := ?_) #[true, true, true, true, true, true, true, true, true, true, true, true, true, true, true, true, true, true, true, false, false, true, false, false, false, false, false, false, false, false, false, false, false, false, false, false, false, false, false, false, false, false] rfl rfl (by kernel_rfl) (fun _ _ _ h => h) (Or.inl ⟨by rfl, ?_⟩) hHeld ?_ ?_
      rotate_left
      · rintro w' ⟨s0_, s1_, s2_, s3_, s4_, s5_, s6_, s7_, s8_, s9_, s10_, s11_, s12_, s13_, s14_, s15_, s16_, s17_, s18_, s19_, s20_, s21_, s22_, s23_, s24_, s25_, s26_, s27_, s28_, s29_, s30_⟩
        go_simp
        with_reducible rfl
      rotate_left
      · simp only [Act.put, List.setIfInBounds_toArray, List.set_cons_zero, List.set_cons_succ]
        rfl
      refine one_ (i := 19) (N := some 42) #[true, true, true, true, true, true, true, true, true, true, true, true, true, true, true, true, true, true, true, true, false, true, false, false, false, false, false, false, false, false, false, false, false, false, false, false, false, false, false, false, false, false] rfl rfl (by kernel_rfl) (by decide) (fun K hK => ?_)
      refine value_ (v := ?_) (w1 := ?_) (by rfl) rfl ?_ ?_
      rotate_left 2
      · go_simp
        first | rfl | (constructor <;> rfl)
      have BL := Blk.new w13 26 #[.bool y0, .int .i64 y1, .bool y2, .int .u64 y3, .int .i64 y4, .int .i64 y5, .bool y6, .int .u64 y7, .int .i64 y8, .bool z0, .int .i64 z1, .bool z2, .int .u64 z3, .int .i64 z4, .int .i64 z5, .bool z6, .int .u64 z7, .int .i64 z8]
      have X8 := X8.alloc (.cells #[.bool y0, .int .i64 y1, .bool y2, .int .u64 y3, .int .i64 y4, .int .i64 y5, .bool y6, .int .u64 y7, .int .i64 y8, .bool z0, .int .i64 z1, .bool z2, .int .u64 z3, .int .i64 z4, .int .i64 z5, .bool z6, .int .u64 z7, .int .i64 z8] 26)
      have M8 := M8.alloc (.cells #[.bool y0, .int .i64 y1, .bool y2, .int .u64 y3, .int .i64 y4, .int .i64 y5, .bool y6, .int .u64 y7, .int .i64 y8, .bool z0, .int .i64 z1, .bool z2, .int .u64 z3, .int .i64 z4, .int .i64 z5, .bool z6, .int .u64 z7, .int .i64 z8] 26)
      have Y8 := Y8.alloc (.cells #[.bool y0, .int .i64 y1, .bool y2, .int .u64 y3, .int .i64 y4, .int .i64 y5, .bool y6, .int .u64 y7, .int .i64 y8, .bool z0, .int .i64 z1, .bool z2, .int .u64 z3, .int .i64 z4, .int .i64 z5, .bool z6, .int .u64 z7, .int .i64 z8] 26)
      have Z8 := Z8.alloc (.cells #[.bool y0, .int .i64 y1, .bool y2, .int .u64 y3, .int .i64 y4, .int .i64 y5, .bool y6, .int .u64 y7, .int .i64 y8, .bool z0, .int .i64 z1, .bool z2, .int .u64 z3, .int .i64 z4, .int .i64 z5, .bool z6, .int .u64 z7, .int .i64 z8] 26)
      have HB8 := bl_alloc HB8 (.cells #[.bool y0, .int .i64 y1, .bool y2, .int .u64 y3, .int .i64 y4, .int .i64 y5, .bool y6, .int .u64 y7, .int .i64 y8, .bool z0, .int .i64 z1, .bool z2, .int .u64 z3, .int .i64 z4, .int .i64 z5, .bool z6, .int .u64 z7, .int .i64 z8] 26)
      refine hK.out _ _ ⟨X8.cell 0, X8.cell 1, X8.cell 2, X8.cell 3, X8.cell 4, X8.cell 5, X8.cell 6, X8.cell 7, X8.cell 8, M8.cell 0, M8.cell 1, M8.cell 2, M8.cell 3, Y8.cell 0, Y8.cell 1, Y8.cell 2, Y8.cell 3, Y8.cell 4, Y8.cell 5, Y8.cell 6, Y8.cell 7, Y8.cell 8, Z8.cell 0, Z8.cell 1, Z8.cell 2, Z8.cell 3, Z8.cell 4, Z8.cell 5, Z8.cell 6, Z8.cell 7, Z8.cell 8⟩ (fun hHeld => ?_)
      clear hK K
      refine norm_ (a' := ?_) ?_ ?_
      rotate_left
      · show Act.put _ (some 42) _ = _
        simp only [Act.put, List.setIfInBounds_toArray, List.set_cons_zero, List.set_cons_succ]
        rfl
      refine one_ (i := 20) (N := some 43) #[true, true, true, true, true, true, true, true, true, true, true, true, true, true, true, true, true, true, true, true, true, true, false, false, false, false, false, false, false, false, false, false, false, false, false, false, false, false, false, false, false, false] rfl rfl (by kernel_rfl) (by decide) (fun K hK => ?_)
      refine goes_ Try.func22 (by kernel_rfl) rfl #[.slice (some ⟨w13.heap.size, 0, none⟩) 2 2] (by rfl) rfl rfl (by simp only [List.map_toArray, List.map_cons, List.map_nil] <;> rfl) ?_
      with_reducible refine (HU.out _ _ (SlI.lit2 (x := ⟨y0, ⟨y1, y2, y3, y4⟩, ⟨y5, y6, y7, y8⟩⟩) (y := ⟨z0, ⟨z1, z2, z3, z4⟩, ⟨z5, z6, z7, z8⟩⟩) BL BL.lt)).mono ?_
      rintro e w14 ⟨rfl, hb⟩
      refine ⟨_, rfl, ?_⟩
      have X8 := X8.call hb
      have M8 := M8.call hb
      have Y8 := Y8.call hb
      have Z8 := Z8.call hb
      have HB8 := bl_trans HB8 hb
      refine hK.out _ _ ⟨X8.cell 0, X8.cell 1, X8.cell 2, X8.cell 3, X8.cell 4, X8.cell 5, X8.cell 6, X8.cell 7, X8.cell 8, M8.cell 0, M8.cell 1, M8.cell 2, M8.cell 3, Y8.cell 0, Y8.cell 1, Y8.cell 2, Y8.cell 3, Y8.cell 4, Y8.cell 5, Y8.cell 6, Y8.cell 7, Y8.cell 8, Z8.cell 0, Z8.cell 1, Z8.cell 2, Z8.cell 3, Z8.cell 4, Z8.cell 5, Z8.cell 6, Z8.cell 7, Z8.cell 8⟩ (fun hHeld => ?_)
      clear hK K hb
      refine norm_ (a' := ?_) ?_ ?_
      rotate_left
      · show Act.put _ (some 43) _ = _
        simp only [Act.put, List.setIfInBounds_toArray, List.set_cons_zero, List.set_cons_succ]
        rfl
      refine pure_ (i := 22) (N := some 45) (v := ?_) (a' := ?_) #[true, true, true, true, true, true, true, true, true, true, true, true, true, true, true, true, true, true, true, true, true, true, true, false, false, false, false, false, false, false, false, false, false, false, false, false, false, false, false, false, false, false] rfl rfl (by kernel_rfl) (fun _ _ _ h => h) (Or.inl ⟨by rfl, ?_⟩) ?_ ?_
      rotate_left
      · intro w'
        go_simp
        with_reducible rfl
      rotate_left
      · simp only [Act.put, List.setIfInBounds_toArray, List.set_cons_zero, List.set_cons_succ]
        rfl
      refine pure_ (i := 23) (N := some 46) (v := ?_) (a' := ?_) #[true, true, true, true, true, true, true, true, true, true, true, true, true, true, true, true, true, true, true, true, true, true, true, true, false, false, false, false, false, false, false, false, false, false, false, false, false, false, false, false, false, false] rfl rfl (by kernel_rfl) (fun _ _ _ h => h) (Or.inl ⟨by rfl, ?_⟩) ?_ ?_
      rotate_left
      · intro w'
        go_simp
        with_reducible rfl
      rotate_left
      · simp only [Act.put, List.setIfInBounds_toArray, List.set_cons_zero, List.set_cons_succ]
        rfl
      refine pure_ (i := 24) (N := some 47) (v := ?_) (a' := ?_) #[true, true, true, true, true, true, true, true, true, true, true, true, true, true, true, true, true, true, true, true, true, true, true, true, true, false, false, false, false, false, false, false, false, false, false, false, false, false, false, false, false, false] rfl rfl (by kernel_rfl) (fun _ _ _ h => h) (Or.inl ⟨by rfl, ?_⟩) ?_ ?_
      rotate_left
      · intro w'
        go_simp
        with_reducible rfl
      rotate_left
      · simp only [Act.put, List.setIfInBounds_toArray, List.set_cons_zero, List.set_cons_succ]
        rfl
      refine take_ (i := 25) (N := some 48) (v := ?_) (a' := ?_) #[true, true, true, true, true, true, true, true, true, true, true, true, true, true, true, true, true, true, true, true, true, true, true, true, true, true, false, false, false, false, false, false, false, false, false, false, false, false, false, false, false, false] rfl rfl (by kernel_rfl) (fun _ _ _ h => h) (Or.inl ⟨by rfl, ?_⟩) hHeld ?_ ?_
      rotate_left
      · rintro w' ⟨s0_, s1_, s2_, s3_, s4_, s5_, s6_, s7_, s8_, s9_, s10_, s11_, s12_, s13_, s14_, s15_, s16_, s17_, s18_, s19_, s20_, s21_, s22_, s23_, s24_, s25_, s26_, s27_, s28_, s29_, s30_⟩
        go_simp
        with_reducible rfl
      rotate_left
      · simp only [Act.put, List.setIfInBounds_toArray, List.set_cons_zero, List.set_cons_succ]
        rfl
      refine take_ (i := 26) (N := some 49) (v := ?_) (a' := ?_) #[true, true, true, true, true, true, true, true, true, true, true, true, true, true, true, true, true, true, true, true, true, true, true, true, true, true, true, false, false, false, false, false, false, false, false, false, false, false, false, false, false, false] rfl rfl (by kernel_rfl) (fun _ _ _ h => h) (Or.inl ⟨by rfl, ?_⟩) hHeld ?_ ?_
      rotate_left
      · rintro w' ⟨s0_, s1_, s2_, s3_, s4_, s5_, s6_, s7_, s8_, s9_, s10_, s11_, s12_, s13_, s14_, s15_, s16_, s17_, s18_, s19_, s20_, s21_, s22_, s23_, s24_, s25_, s26_, s27_, s28_, s29_, s30_⟩
        go_simp
        with_reducible rfl
      rotate_left
      · simp only [Act.put, List.setIfInBounds_toArray, List.set_cons_zero, List.set_cons_succ]
        rfl
      refine take_ (i := 29) (N := some 52) (v := ?_) (a' := ?_) #[true, true, true, true, true, true, true, true, true, true, true, true, true, true, true, true, true, true, true, true, true, true, true, true, true, true, true, false, false, true, false, false, false, false, false, false, false, false, false, false, false, false] rfl rfl (by kernel_rfl) (fun _ _ _ h => h) (Or.inl ⟨by rfl, ?_⟩) hHeld ?_ ?_
      rotate_left
      · rintro w' ⟨s0_, s1_, s2_, s3_, s4_, s5_, s6_, s7_, s8_, s9_, s10_, s11_, s12_, s13_, s14_, s15_, s16_, s17_, s18_, s19_, s20_, s21_, s22_, s23_, s24_, s25_, s26_, s27_, s28_, s29_, s30_⟩
        go_simp
        with_reducible rfl
      rotate_left
      · simp only [Act.put, List.setIfInBounds_toArray, List.set_cons_zero, List.set_cons_succ]
        rfl
      refine one_ (i := 27) (N := some 50) #[true, true, true, true, true, true, true, true, true, true, true, true, true, true, true, true, true, true, true, true, true, true, true, true, true, true, true, true, false, true, false, false, false, false, false, false, false, false, false, false, false, false] rfl rfl (by kernel_rfl) (by decide) (fun K hK => ?_)
      refine value_ (v := ?_) (w1 := ?_) (by rfl) rfl ?_ ?_
      rotate_left 2
      · go_simp
        first | rfl | (constructor <;> rfl)
      have BL := Blk.new w14 26 #[.bool y0, .int .i64 y1, .bool y2, .int .u64 y3, .int .i64 y4, .int .i64 y5, .bool y6, .int .u64 y7, .int .i64 y8, .bool z0, .int .i64 z1, .bool z2, .int .u64 z3, .int .i64 z4, .int .i64 z5, .bool z6, .int .u64 z7, .int .i64 z8]
      have X8 := X8.alloc (.cells #[.bool y0, .int .i64 y1, .bool y2, .int .u64 y3, .int .i64 y4, .int .i64 y5, .bool y6, .int .u64 y7, .int .i64 y8, .bool z0, .int .i64 z1, .bool z2, .int .u64 z3, .int .i64 z4, .int .i64 z5, .bool z6, .int .u64 z7, .int .i64 z8] 26)
      have M8 := M8.alloc (.cells #[.bool y0, .int .i64 y1, .bool y2, .int .u64 y3, .int .i64 y4, .int .i64 y5, .bool y6, .int .u64 y7, .int .i64 y8, .bool z0, .int .i64 z1, .bool z2, .int .u64 z3, .int .i64 z4, .int .i64 z5, .bool z6, .int .u64 z7, .int .i64 z8] 26)
      have Y8 := Y8.alloc (.cells #[.bool y0, .int .i64 y1, .bool y2, .int .u64 y3, .int .i64 y4, .int .i64 y5, .bool y6, .int .u64 y7, .int .i64 y8, .bool z0, .int .i64 z1, .bool z2, .int .u64 z3, .int .i64 z4, .int .i64 z5, .bool z6, .int .u64 z7, .int .i64 z8] 26)
      have Z8 := Z8.alloc (.cells #[.bool y0, .int .i64 y1, .bool y2, .int .u64 y3, .int .i64 y4, .int .i64 y5, .bool y6, .int .u64 y7, .int .i64 y8, .bool z0, .int .i64 z1, .bool z2, .int .u64 z3, .int .i64 z4, .int .i64 z5, .bool z6, .int .u64 z7, .int .i64 z8] 26)
      have HB8 := bl_alloc HB8 (.cells #[.bool y0, .int .i64 y1, .bool y2, .int .u64 y3, .int .i64 y4, .int .i64 y5, .bool y6, .int .u64 y7, .int .i64 y8, .bool z0, .int .i64 z1, .bool z2, .int .u64 z3, .int .i64 z4, .int .i64 z5, .bool z6, .int .u64 z7, .int .i64 z8] 26)
      refine hK.out _ _ ⟨X8.cell 0, X8.cell 1, X8.cell 2, X8.cell 3, X8.cell 4, X8.cell 5, X8.cell 6, X8.cell 7, X8.cell 8, M8.cell 0, M8.cell 1, M8.cell 2, M8.cell 3, Y8.cell 0, Y8.cell 1, Y8.cell 2, Y8.cell 3, Y8.cell 4, Y8.cell 5, Y8.cell 6, Y8.cell 7, Y8.cell 8, Z8.cell 0, Z8.cell 1, Z8.cell 2, Z8.cell 3, Z8.cell 4, Z8.cell 5, Z8.cell 6, Z8.cell 7, Z8.cell 8⟩ (fun hHeld => ?_)
      clear hK K
      refine norm_ (a' := ?_) ?_ ?_
      rotate_left
      · show Act.put _ (some 50) _ = _
        simp only [Act.put, List.setIfInBounds_toArray, List.set_cons_zero, List.set_cons_succ]
        rfl
      refine one_ (i := 28) (N := some 51) #[true, true, true, true, true, true, true, true, true, true, true, true, true, true, true, true, true, true, true, true, true, true, true, true, true, true, true, true, true, true, false, false, false, false, false, false, false, false, false, false, false, false] rfl rfl (by kernel_rfl) (by decide) (fun K hK => ?_)
      refine goes_ Try.func23 (by kernel_rfl) rfl #[.slice (some ⟨w14.heap.size, 0, none⟩) 2 2] (by rfl) rfl rfl (by simp only [List.map_toArray, List.map_cons, List.map_nil] <;> rfl) ?_
      with_reducible refine (HE.out _ _ (SlI.lit2 (x := ⟨y0, ⟨y1, y2, y3, y4⟩, ⟨y5, y6, y7, y8⟩⟩) (y := ⟨z0, ⟨z1, z2, z3, z4⟩, ⟨z5, z6, z7, z8⟩⟩) BL BL.lt)).mono ?_
      rintro e w15 ⟨rfl, hb⟩
      refine ⟨_, rfl, ?_⟩
      have X8 := X8.call hb
      have M8 := M8.call hb
      have Y8 := Y8.call hb
      have Z8 := Z8.call hb
      have HB8 := bl_trans HB8 hb
      refine hK.out _ _ ⟨X8.cell 0, X8.cell 1, X8.cell 2, X8.cell 3, X8.cell 4, X8.cell 5, X8.cell 6, X8.cell 7, X8.cell 8, M8.cell 0, M8.cell 1, M8.cell 2, M8.cell 3, Y8.cell 0, Y8.cell 1, Y8.cell 2, Y8.cell 3, Y8.cell 4, Y8.cell 5, Y8.cell 6, Y8.cell 7, Y8.cell 8, Z8.cell 0, Z8.cell 1, Z8.cell 2, Z8.cell 3, Z8.cell 4, Z8.cell 5, Z8.cell 6, Z8.cell 7, Z8.cell 8⟩ (fun hHeld => ?_)
      clear hK K hb
      refine norm_ (a' := ?_) ?_ ?_
      rotate_left
      · show Act.put _ (some 51) _ = _
        simp only [Act.put, List.setIfInBounds_toArray, List.set_cons_zero, List.set_cons_succ]
        rfl
      refine one_ (i := 30) (N := some 53) #[true, true, true, true, true, true, true, true, true, true, true, true, true, true, true, true, true, true, true, true, true, true, true, true, true, true, true, true, true, true, true, false, false, false, false, false, false, false, false, false, false, false] rfl rfl (by kernel_rfl) (by decide) (fun K hK => ?_)
      refine goes_ Try.func24 (by kernel_rfl) rfl #[.agg #[.int .i64 m0, .bool m1, .int .u64 m2, .int .i64 m3]] (by rfl) rfl rfl (by simp only [List.map_toArray, List.map_cons, List.map_nil] <;> rfl) ?_
      with_reducible refine (HP.out _).mono ?_
      rintro e w16 ⟨rfl, hb⟩
      refine ⟨_, rfl, ?_⟩
      have X8 := X8.call hb
      have M8 := M8.call hb
      have Y8 := Y8.call hb
      have Z8 := Z8.call hb
      have HB8 := bl_trans HB8 hb
      refine hK.out _ _ ⟨X8.cell 0, X8.cell 1, X8.cell 2, X8.cell 3, X8.cell 4, X8.cell 5, X8.cell 6, X8.cell 7, X8.cell 8, M8.cell 0, M8.cell 1, M8.cell 2, M8.cell 3, Y8.cell 0, Y8.cell 1, Y8.cell 2, Y8.cell 3, Y8.cell 4, Y8.cell 5, Y8.cell 6, Y8.cell 7, Y8.cell 8, Z8.cell 0, Z8.cell 1, Z8.cell 2, Z8.cell 3, Z8.cell 4, Z8.cell 5, Z8.cell 6, Z8.cell 7, Z8.cell 8⟩ (fun hHeld => ?_)
      clear hK K hb
      refine norm_ (a' := ?_) ?_ ?_
      rotate_left
      · show Act.put _ (some 53) _ = _
        simp only [Act.put, List.setIfInBounds_toArray, List.set_cons_zero, List.set_cons_succ]
        rfl
      refine pure_ (i := 31) (N := some 54) (v := ?_) (a' := ?_) #[true, true, true, true, true, true, true, true, true, true, true, true, true, true, true, true, true, true, true, true, true, true, true, true, true, true, true, true, true, true, true, true, false, false, false, false, false, false, false, false, false, false] rfl rfl (by kernel_rfl) (fun _ _ _ h => h) (Or.inl ⟨by rfl, ?_⟩) ?_ ?_
      rotate_left
      · intro w'
        go_simp
        with_reducible rfl
      rotate_left
      · simp only [Act.put, List.setIfInBounds_toArray, List.set_cons_zero, List.set_cons_succ]
        rfl
      refine pure_ (i := 32) (N := some 55) (v := ?_) (a' := ?_) #[true, true, true, true, true, true, true, true, true, true, true, true, true, true, true, true, true, true, true, true, true, true, true, true, true, true, true, true, true, true, true, true, true, false, false, false, false, false, false, false, false, false] rfl rfl (by kernel_rfl) (fun _ _ _ h => h) (Or.inl ⟨by rfl, ?_⟩) ?_ ?_
      rotate_left
      · intro w'
        go_simp
        with_reducible rfl
      rotate_left
      · simp only [Act.put, List.setIfInBounds_toArray, List.set_cons_zero, List.set_cons_succ]
        rfl
      refine pure_ (i := 33) (N := some 56) (v := ?_) (a' := ?_) #[true, true, true, true, true, true, true, true, true, true, true, true, true, true, true, true, true, true, true, true, true, true, true, true, true, true, true, true, true, true, true, true, true, true, false, false, false, false, false, false, false, false] rfl rfl (by kernel_rfl) (fun _ _ _ h => h) (Or.inl ⟨by rfl, ?_⟩) ?_ ?_
      rotate_left
      · intro w'
        go_simp
        with_reducible rfl
      rotate_left
      · simp only [Act.put, List.setIfInBounds_toArray, List.set_cons_zero, List.set_cons_succ]
        rfl
      refine take_ (i := 34) (N := some 57) (v := ?_) (a' := ?_) #[true, true, true, true, true, true, true, true, true, true, true, true, true, true, true, true, true, true, true, true, true, true, true, true, true, true, true, true, true, true, true, true, true, true, true, false, false, false, false, false, false, false] rfl rfl (by kernel_rfl) (fun _ _ _ h => h) (Or.inl ⟨by rfl, ?_⟩) hHeld ?_ ?_
      rotate_left
      · rintro w' ⟨s0_, s1_, s2_, s3_, s4_, s5_, s6_, s7_, s8_, s9_, s10_, s11_, s12_, s13_, s14_, s15_, s16_, s17_, s18_, s19_, s20_, s21_, s22_, s23_, s24_, s25_, s26_, s27_, s28_, s29_, s30_⟩
        go_simp
        with_reducible rfl
      rotate_left
      · simp only [Act.put, List.setIfInBounds_toArray, List.set_cons_zero, List.set_cons_succ]
        rfl
      refine take_ (i := 36) (N := some 59) (v := ?_) (a' := ?_) #[true, true, true, true, true, true, true, true, true, true, true, true, true, true, true, true, true, true, true, true, true, true, true, true, true, true, true, true, true, true, true, true, true, true, true, false, true, false, false, false, false, false] rfl rfl (by kernel_rfl) (fun _ _ _ h => h) (Or.inl ⟨by rfl, ?_⟩) hHeld ?_ ?_
      rotate_left
      · rintro w' ⟨s0_, s1_, s2_, s3_, s4_, s5_, s6_, s7_, s8_, s9_, s10_, s11_, s12_, s13_, s14_, s15_, s16_, s17_, s18_, s19_, s20_, s21_, s22_, s23_, s24_, s25_, s26_, s27_, s28_, s29_, s30_⟩
        go_simp
        with_reducible rfl
      rotate_left
      · simp only [Act.put, List.setIfInBounds_toArray, List.set_cons_zero, List.set_cons_succ]
        rfl
      refine one_ (i := 35) (N := some 58) #[true, true, true, true, true, true, true, true, true, true, true, true, true, true, true, true, true, true, true, true, true, true, true, true, true, true, true, true, true, true, true, true, true, true, true, true, true, false, false, false, false, false] rfl rfl (by kernel_rfl) (by decide) (fun K hK => ?_)
      refine goes_ Try.func25 (by kernel_rfl) rfl #[.agg #[.bool y0, .int .i64 y1, .bool y2, .int .u64 y3, .int .i64 y4, .int .i64 y5, .bool y6, .int .u64 y7, .int .i64 y8]] (by rfl) rfl rfl (by simp only [List.map_toArray, List.map_cons, List.map_nil] <;> rfl) ?_
      with_reducible refine (HWY.out _).mono ?_
      rintro e w17 ⟨rfl, hb⟩
      refine ⟨_, rfl, ?_⟩
      have X8 := X8.call hb
      have M8 := M8.call hb
      have Y8 := Y8.call hb
      have Z8 := Z8.call hb
      have HB8 := bl_trans HB8 hb
      refine hK.out _ _ ⟨X8.cell 0, X8.cell 1, X8.cell 2, X8.cell 3, X8.cell 4, X8.cell 5, X8.cell 6, X8.cell 7, X8.cell 8, M8.cell 0, M8.cell 1, M8.cell 2, M8.cell 3, Y8.cell 0, Y8.cell 1, Y8.cell 2, Y8.cell 3, Y8.cell 4, Y8.cell 5, Y8.cell 6, Y8.cell 7, Y8.cell 8, Z8.cell 0, Z8.cell 1, Z8.cell 2, Z8.cell 3, Z8.cell 4, Z8.cell 5, Z8.cell 6, Z8.cell 7, Z8.cell 8⟩ (fun hHeld => ?_)
      clear hK K hb
      refine norm_ (a' := ?_) ?_ ?_
      rotate_left
      · show Act.put _ (some 58) _ = _
        simp only [Act.put, List.setIfInBounds_toArray, List.set_cons_zero, List.set_cons_succ]
        rfl
      refine one_ (i := 37) (N := some 60) #[true, true, true, true, true, true, true, true, true, true, true, true, true, true, true, true, true, true, true, true, true, true, true, true, true, true, true, true, true, true, true, true, true, true, true, true, true, true, false, false, false, false] rfl rfl (by kernel_rfl) (by decide) (fun K hK => ?_)
      refine goes_ Try.func25 (by kernel_rfl) rfl #[.agg #[.bool false, .int .i64 x1, .bool x2, .int .u64 x3, .int .i64 x4, .int .i64 x5, .bool x6, .int .u64 x7, .int .i64 x8]] (by rfl) rfl rfl (by simp only [List.map_toArray, List.map_cons, List.map_nil] <;> rfl) ?_
      with_reducible refine (HWX.out _).mono ?_
      rintro e w18 ⟨rfl, hb⟩
      refine ⟨_, rfl, ?_⟩
      have X8 := X8.call hb
      have M8 := M8.call hb
      have Y8 := Y8.call hb
      have Z8 := Z8.call hb
      have HB8 := bl_trans HB8 hb
      refine hK.out _ _ ⟨X8.cell 0, X8.cell 1, X8.cell 2, X8.cell 3, X8.cell 4, X8.cell 5, X8.cell 6, X8.cell 7, X8.cell 8, M8.cell 0, M8.cell 1, M8.cell 2, M8.cell 3, Y8.cell 0, Y8.cell 1, Y8.cell 2, Y8.cell 3, Y8.cell 4, Y8.cell 5, Y8.cell 6, Y8.cell 7, Y8.cell 8, Z8.cell 0, Z8.cell 1, Z8.cell 2, Z8.cell 3, Z8.cell 4, Z8.cell 5, Z8.cell 6, Z8.cell 7, Z8.cell 8⟩ (fun hHeld => ?_)
      clear hK K hb
      refine norm_ (a' := ?_) ?_ ?_
      rotate_left
      · show Act.put _ (some 60) _ = _
        simp only [Act.put, List.setIfInBounds_toArray, List.set_cons_zero, List.set_cons_succ]
        rfl
      refine one_ (i := 38) (N := some 61) #[true, true, true, true, true, true, true, true, true, true, true, true, true, true, true, true, true, true, true, true, true, true, true, true, true, true, true, true, true, true, true, true, true, true, true, true, true, true, true, false, false, false] rfl rfl (by kernel_rfl) (by decide) (fun K hK => ?_)
      refine goes_ Try.func16 (by kernel_rfl) rfl #[.agg #[.int .i64 d0, .bool d1, .int .u64 d2, .int .i64 d3], .agg #[.int .i64 f0, .bool f1, .int .u64 f2, .int .i64 f3]] (by rfl) rfl rfl (by simp only [List.map_toArray, List.map_cons, List.map_nil] <;> rfl) ?_
      with_reducible refine (HC.out _).mono ?_
      rintro e w19 ⟨rfl, hb⟩
      refine ⟨_, rfl, ?_⟩
      have X8 := X8.call hb
      have M8 := M8.call hb
      have Y8 := Y8.call hb
      have Z8 := Z8.call hb
      have HB8 := bl_trans HB8 hb
      refine hK.out _ _ ⟨X8.cell 0, X8.cell 1, X8.cell 2, X8.cell 3, X8.cell 4, X8.cell 5, X8.cell 6, X8.cell 7, X8.cell 8, M8.cell 0, M8.cell 1, M8.cell 2, M8.cell 3, Y8.cell 0, Y8.cell 1, Y8.cell 2, Y8.cell 3, Y8.cell 4, Y8.cell 5, Y8.cell 6, Y8.cell 7, Y8.cell 8, Z8.cell 0, Z8.cell 1, Z8.cell 2, Z8.cell 3, Z8.cell 4, Z8.cell 5, Z8.cell 6, Z8.cell 7, Z8.cell 8⟩ (fun hHeld => ?_)
      clear hK K hb
      refine norm_ (a' := ?_) ?_ ?_
      rotate_left
      · show Act.put _ (some 61) _ = _
        simp only [Act.put, List.setIfInBounds_toArray, List.set_cons_zero, List.set_cons_succ]
        rfl
      refine pure_ (i := 39) (N := some 62) (v := ?_) (a' := ?_) #[true, true, true, true, true, true, true, true, true, true, true, true, true, true, true, true, true, true, true, true, true, true, true, true, true, true, true, true, true, true, true, true, true, true, true, true, true, true, true, true, false, false] rfl rfl (by kernel_rfl) (fun _ _ _ h => h) (Or.inl ⟨by rfl, ?_⟩) ?_ ?_
      rotate_left
      · intro w'
        go_simp
        with_reducible rfl
      rotate_left
      · simp only [Act.put, List.setIfInBounds_toArray, List.set_cons_zero, List.set_cons_succ]
        rfl
      refine pure_ (i := 40) (N := some 63) (v := ?_) (a' := ?_) #[true, true, true, true, true, true, true, true, true, true, true, true, true, true, true, true, true, true, true, true, true, true, true, true, true, true, true, true, true, true, true, true, true, true, true, true, true, true, true, true, true, false] rfl rfl (by kernel_rfl) (fun _ _ _ h => h) (Or.inl ⟨by rfl, ?_⟩) ?_ ?_
      rotate_left
      · intro w'
        go_simp
        with_reducible rfl
      rotate_left
      · simp only [Act.put, List.setIfInBounds_toArray, List.set_cons_zero, List.set_cons_succ]
        rfl
      refine pure_ (i := 41) (N := some 2) (v := ?_) (a' := ?_) #[true, true, true, true, true, true, true, true, true, true, true, true, true, true, true, true, true, true, true, true, true, true, true, true, true, true, true, true, true, true, true, true, true, true, true, true, true, true, true, true, true, true] rfl rfl (by kernel_rfl) (fun _ _ _ h => h) (Or.inl ⟨by rfl, ?_⟩) ?_ ?_
      rotate_left
      · intro w'
        go_simp
        with_reducible rfl
      rotate_left
      · simp only [Act.put, List.setIfInBounds_toArray, List.set_cons_zero, List.set_cons_succ]
        rfl
      refine done_ (by kernel_rfl) ?_
      go_wp2
      go_ret
      exact ⟨rfl, HB8⟩
    · clear HL WM hm
      go_enter Try.func4, Try.ntmps4
      go_wp2_with (first
        | (go_at_call 13; (refine (awake08_calls _).mono ?_); rintro e' w1 ⟨rfl, hb⟩; have X1 := X0.call hb; have HB1 := bl_trans HB0 hb; clear hb; obtain ⟨⟨p0, p1, p2, p3, p4, p5, p6, p7, p8⟩, _⟩ := X1.c9)
        | (go_at_call 14; (refine (HX.out _).mono ?_); rintro e' w2 ⟨rfl, hb⟩; have X2 := X1.call hb; have HB2 := bl_trans HB1 hb; clear hb p0 p1 p2 p3 p4 p5 p6 p7 p8; obtain ⟨⟨p0, p1, p2, p3, p4, p5, p6, p7, p8⟩, _⟩ := X2.c9))
      go_ret
      exact ⟨rfl, HB2⟩
end Go.Proofs.Ytagojbgmgkkdpaa.Wk
