/- Walk: peloruslaw08.IvHas returns true, for every input. -/
import Derived.Test.YtakajahogjeiaaaAw08
import Derived.Test.YtakajahogjeiaaaIvPl2
namespace Go.Proofs.Ytakajahogjeiaaa.Wk
open Go.RowKit Go.Proofs.Pl Go.Proofs.YtakajahogjeiaaaW.PrintLast
set_option linter.unusedSimpArgs false
set_option linter.unusedVariables false

set_option maxRecDepth 100000 in
set_option maxHeartbeats 8000000 in
theorem ivHas_calls (a0 : Bool) (a1 : Int) (a2 : Bool) (a3 a4 a5 : Int) (a6 : Bool) (a7 a8 : Int) (b0 : Bool) (b1 : Int) (b2 : Bool) (b3 b4 b5 : Int) (b6 : Bool) (b7 b8 : Int) (n0 : Int) (n1 : Bool) (n2 n3 : Int) (w : World) (wa : WfIv ⟨a0, ⟨a1, a2, a3, a4⟩, ⟨a5, a6, a7, a8⟩⟩) (wb : WfIv ⟨b0, ⟨b1, b2, b3, b4⟩, ⟨b5, b6, b7, b8⟩⟩) (wn : Wf ⟨n0, n1, n2, n3⟩) :
    Calls Try.prog 11 #[.agg #[.bool a0, .int .i64 a1, .bool a2, .int .u64 a3, .int .i64 a4, .int .i64 a5, .bool a6, .int .u64 a7, .int .i64 a8], .agg #[.bool b0, .int .i64 b1, .bool b2, .int .u64 b3, .int .i64 b4, .int .i64 b5, .bool b6, .int .u64 b7, .int .i64 b8], .agg #[.int .i64 n0, .bool n1, .int .u64 n2, .int .i64 n3]] w fun e w' => e = .returned (.bool true) ∧ Below w.heap.size w w' := by
  obtain ⟨hlaw1, hlaw2⟩ := law_has _ _ _ wa wb wn
  have HM := Lib.hid (fun A W (h : SlI W W.heap.size A 2 [⟨a0, ⟨a1, a2, a3, a4⟩, ⟨a5, a6, a7, a8⟩⟩, ⟨b0, ⟨b1, b2, b3, b4⟩, ⟨b5, b6, b7, b8⟩⟩]) => meetI_calls A 2 2 _ W h (by omega))
  have HH := Lib.hid (fun A W (h : SlI W W.heap.size A 2 [⟨a0, ⟨a1, a2, a3, a4⟩, ⟨a5, a6, a7, a8⟩⟩, ⟨b0, ⟨b1, b2, b3, b4⟩, ⟨b5, b6, b7, b8⟩⟩]) => hullI_calls A 2 2 _ W h (by omega))
  have HX := Lib.hid (fun W => hasI_calls a0 a1 a2 a3 a4 a5 a6 a7 a8 n0 n1 n2 n3 W)
  have HY := Lib.hid (fun W => hasI_calls b0 b1 b2 b3 b4 b5 b6 b7 b8 n0 n1 n2 n3 W)
  generalize meetI [⟨a0, ⟨a1, a2, a3, a4⟩, ⟨a5, a6, a7, a8⟩⟩, ⟨b0, ⟨b1, b2, b3, b4⟩, ⟨b5, b6, b7, b8⟩⟩] = m at HM hlaw1
  generalize hullI [⟨a0, ⟨a1, a2, a3, a4⟩, ⟨a5, a6, a7, a8⟩⟩, ⟨b0, ⟨b1, b2, b3, b4⟩, ⟨b5, b6, b7, b8⟩⟩] = h at HH hlaw2
  generalize hasI ⟨a0, ⟨a1, a2, a3, a4⟩, ⟨a5, a6, a7, a8⟩⟩ ⟨n0, n1, n2, n3⟩ = x at HX hlaw1 hlaw2
  generalize hasI ⟨b0, ⟨b1, b2, b3, b4⟩, ⟨b5, b6, b7, b8⟩⟩ ⟨n0, n1, n2, n3⟩ = y at HY hlaw1 hlaw2
  obtain ⟨m0, ⟨m1, m2, m3, m4⟩, ⟨m5, m6, m7, m8⟩⟩ := m
  obtain ⟨h0, ⟨h1, h2, h3, h4⟩, ⟨h5, h6, h7, h8⟩⟩ := h
  dsimp only at HM HH
  have HP := Lib.hid (fun W => hasI_calls m0 m1 m2 m3 m4 m5 m6 m7 m8 n0 n1 n2 n3 W)
  have HQ := Lib.hid (fun W => hasI_calls h0 h1 h2 h3 h4 h5 h6 h7 h8 n0 n1 n2 n3 W)
  rw [hlaw1] at HP
  generalize hasI ⟨h0, ⟨h1, h2, h3, h4⟩, ⟨h5, h6, h7, h8⟩⟩ ⟨n0, n1, n2, n3⟩ = q at HQ hlaw2
  clear hlaw1 wa wb wn
  go_enter Try.func11, Try.ntmps11
  go_wp2_with fail
  have BA := (((Blk.new w 44 #[.bool a0, .int .i64 a1, .bool a2, .int .u64 a3, .int .i64 a4, .int .i64 a5, .bool a6, .int .u64 a7, .int .i64 a8]).alloc (.cells #[.bool b0, .int .i64 b1, .bool b2, .int .u64 b3, .int .i64 b4, .int .i64 b5, .bool b6, .int .u64 b7, .int .i64 b8] 44)).alloc (.cells #[.int .i64 n0, .bool n1, .int .u64 n2, .int .i64 n3] 42))
  have BB := ((Blk.new1 w (.cells #[.bool a0, .int .i64 a1, .bool a2, .int .u64 a3, .int .i64 a4, .int .i64 a5, .bool a6, .int .u64 a7, .int .i64 a8] 44) 44 #[.bool b0, .int .i64 b1, .bool b2, .int .u64 b3, .int .i64 b4, .int .i64 b5, .bool b6, .int .u64 b7, .int .i64 b8]).alloc (.cells #[.int .i64 n0, .bool n1, .int .u64 n2, .int .i64 n3] 42))
  have BN0 := (Blk.new2 w (.cells #[.bool a0, .int .i64 a1, .bool a2, .int .u64 a3, .int .i64 a4, .int .i64 a5, .bool a6, .int .u64 a7, .int .i64 a8] 44) (.cells #[.bool b0, .int .i64 b1, .bool b2, .int .u64 b3, .int .i64 b4, .int .i64 b5, .bool b6, .int .u64 b7, .int .i64 b8] 44) 42 #[.int .i64 n0, .bool n1, .int .u64 n2, .int .i64 n3])
  have BN : Blk _ (w.heap.size + 1 + 1) _ _ := BN0
  clear BN0
  have HB := bl_alloc (bl_alloc (bl_alloc (Below.refl w.heap.size w) (.cells #[.bool a0, .int .i64 a1, .bool a2, .int .u64 a3, .int .i64 a4, .int .i64 a5, .bool a6, .int .u64 a7, .int .i64 a8] 44)) (.cells #[.bool b0, .int .i64 b1, .bool b2, .int .u64 b3, .int .i64 b4, .int .i64 b5, .bool b6, .int .u64 b7, .int .i64 b8] 44)) (.cells #[.int .i64 n0, .bool n1, .int .u64 n2, .int .i64 n3] 42)
  refine (awake08_calls _).mono ?_
  rintro e w1 ⟨rfl, hb⟩
  have BA := BA.call hb
  have BB := BB.call hb
  have BN := BN.call hb
  have HB := bl_trans HB hb
  clear hb
  have fA := BA.c9
  have fB := BB.c9
  have fN := BN.c4
  obtain ⟨⟨p0, p1, p2, p3, p4, p5, p6, p7, p8⟩, _⟩ := fA
  obtain ⟨⟨r0, r1, r2, r3, r4, r5, r6, r7, r8⟩, _⟩ := fB
  obtain ⟨⟨s0, s1, s2, s3⟩, _⟩ := fN
  go_wp2_with fail
  refine (HX.out _).mono ?_
  rintro e w2 ⟨rfl, hb⟩
  clear p0 p1 p2 p3 p4 p5 p6 p7 p8 r0 r1 r2 r3 r4 r5 r6 r7 r8 s0 s1 s2 s3
  have BA := BA.call hb
  have BB := BB.call hb
  have BN := BN.call hb
  have HB := bl_trans HB hb
  clear hb
  obtain ⟨⟨r0, r1, r2, r3, r4, r5, r6, r7, r8⟩, _⟩ := BB.c9
  obtain ⟨⟨s0, s1, s2, s3⟩, _⟩ := BN.c4
  go_wp2_with fail
  refine (HY.out _).mono ?_
  rintro e w3 ⟨rfl, hb⟩
  clear r0 r1 r2 r3 r4 r5 r6 r7 r8 s0 s1 s2 s3
  have BA := BA.call hb
  have BB := BB.call hb
  have BN := BN.call hb
  have HB := bl_trans HB hb
  clear hb
  go_wp2_with fail
  replace BA := BA.drew
  replace BB := BB.drew
  replace BN := BN.drew
  replace HB := bl_drew HB
  have g := hlaw2
  clear hlaw2
  cases x <;> cases y
  · clear g
    refine start_ (n := 31) (S := fun w' => w'.cell? ⟨w.heap.size, 0, none⟩ = some (.bool a0) ∧ w'.cell? ⟨w.heap.size, 1, none⟩ = some (.int .i64 a1) ∧ w'.cell? ⟨w.heap.size, 2, none⟩ = some (.bool a2) ∧ w'.cell? ⟨w.heap.size, 3, none⟩ = some (.int .u64 a3) ∧ w'.cell? ⟨w.heap.size, 4, none⟩ = some (.int .i64 a4) ∧ w'.cell? ⟨w.heap.size, 5, none⟩ = some (.int .i64 a5) ∧ w'.cell? ⟨w.heap.size, 6, none⟩ = some (.bool a6) ∧ w'.cell? ⟨w.heap.size, 7, none⟩ = some (.int .u64 a7) ∧ w'.cell? ⟨w.heap.size, 8, none⟩ = some (.int .i64 a8) ∧ w'.cell? ⟨(w.heap.size + 1), 0, none⟩ = some (.bool b0) ∧ w'.cell? ⟨(w.heap.size + 1), 1, none⟩ = some (.int .i64 b1) ∧ w'.cell? ⟨(w.heap.size + 1), 2, none⟩ = some (.bool b2) ∧ w'.cell? ⟨(w.heap.size + 1), 3, none⟩ = some (.int .u64 b3) ∧ w'.cell? ⟨(w.heap.size + 1), 4, none⟩ = some (.int .i64 b4) ∧ w'.cell? ⟨(w.heap.size + 1), 5, none⟩ = some (.int .i64 b5) ∧ w'.cell? ⟨(w.heap.size + 1), 6, none⟩ = some (.bool b6) ∧ w'.cell? ⟨(w.heap.size + 1), 7, none⟩ = some (.int .u64 b7) ∧ w'.cell? ⟨(w.heap.size + 1), 8, none⟩ = some (.int .i64 b8) ∧ w'.cell? ⟨(w.heap.size + 1 + 1), 0, none⟩ = some (.int .i64 n0) ∧ w'.cell? ⟨(w.heap.size + 1 + 1), 1, none⟩ = some (.bool n1) ∧ w'.cell? ⟨(w.heap.size + 1 + 1), 2, none⟩ = some (.int .u64 n2) ∧ w'.cell? ⟨(w.heap.size + 1 + 1), 3, none⟩ = some (.int .i64 n3)) (ds := []) #[false, false, false, false, false, false, false, false, false, false, false, false, false, false, false, false, false, false, false, false, false, false, false, false, false, false, false, false, false, false, false] (by kernel_rfl) rfl rfl ⟨BA.cell 0, BA.cell 1, BA.cell 2, BA.cell 3, BA.cell 4, BA.cell 5, BA.cell 6, BA.cell 7, BA.cell 8, BB.cell 0, BB.cell 1, BB.cell 2, BB.cell 3, BB.cell 4, BB.cell 5, BB.cell 6, BB.cell 7, BB.cell 8, BN.cell 0, BN.cell 1, BN.cell 2, BN.cell 3⟩ (fun hHeld => ?_)
    generalize w3.drew = w4 at BA BB BN HB hHeld ⊢
    refine pure_ (i := 0) (N := some 17) (v := ?_) (a' := ?_) #[true, false, false, false, false, false, false, false, false, false, false, false, false, false, false, false, false, false, false, false, false, false, false, false, false, false, false, false, false, false, false] rfl rfl (by kernel_rfl) (fun _ _ _ h => h) (Or.inl ⟨by rfl, ?_⟩) ?_ ?_
    rotate_left
    · intro w'
      go_simp
      with_reducible rfl
    rotate_left
    · simp only [Act.put, List.setIfInBounds_toArray, List.set_cons_zero, List.set_cons_succ]
      rfl
    refine pure_ (i := 1) (N := some 18) (v := ?_) (a' := ?_) #[true, true, false, false, false, false, false, false, false, false, false, false, false, false, false, false, false, false, false, false, false, false, false, false, false, false, false, false, false, false, false] rfl rfl (by kernel_rfl) (fun _ _ _ h => h) (Or.inl ⟨by rfl, ?_⟩) ?_ ?_
    rotate_left
    · intro w'
      go_simp
      with_reducible rfl
    rotate_left
    · simp only [Act.put, List.setIfInBounds_toArray, List.set_cons_zero, List.set_cons_succ]
      rfl
    refine take_ (i := 2) (N := some 19) (v := ?_) (a' := ?_) #[true, true, true, false, false, false, false, false, false, false, false, false, false, false, false, false, false, false, false, false, false, false, false, false, false, false, false, false, false, false, false] rfl rfl (by kernel_rfl) (fun _ _ _ h => h) (Or.inl ⟨by rfl, ?_⟩) hHeld ?_ ?_
    rotate_left
    · rintro w' ⟨s0_, s1_, s2_, s3_, s4_, s5_, s6_, s7_, s8_, s9_, s10_, s11_, s12_, s13_, s14_, s15_, s16_, s17_, s18_, s19_, s20_, s21_⟩
      go_simp
      with_reducible rfl
    rotate_left
    · simp only [Act.put, List.setIfInBounds_toArray, List.set_cons_zero, List.set_cons_succ]
      rfl
    refine take_ (i := 3) (N := some 20) (v := ?_) (a' := ?_) #[true, true, true, true, false, false, false, false, false, false, false, false, false, false, false, false, false, false, false, false, false, false, false, false, false, false, false, false, false, false, false] rfl rfl (by kernel_rfl) (fun _ _ _ h => h) (Or.inl ⟨by rfl, ?_⟩) hHeld ?_ ?_
    rotate_left
    · rintro w' ⟨s0_, s1_, s2_, s3_, s4_, s5_, s6_, s7_, s8_, s9_, s10_, s11_, s12_, s13_, s14_, s15_, s16_, s17_, s18_, s19_, s20_, s21_⟩
      go_simp
      with_reducible rfl
    rotate_left
    · simp only [Act.put, List.setIfInBounds_toArray, List.set_cons_zero, List.set_cons_succ]
      rfl
    refine take_ (i := 6) (N := some 23) (v := ?_) (a' := ?_) #[true, true, true, true, false, false, true, false, false, false, false, false, false, false, false, false, false, false, false, false, false, false, false, false, false, false, false, false, false, false, false] rfl rfl (by kernel_rfl) (fun _ _ _ h => h) (Or.inl ⟨by rfl, ?_⟩) hHeld ?_ ?_
    rotate_left
    · rintro w' ⟨s0_, s1_, s2_, s3_, s4_, s5_, s6_, s7_, s8_, s9_, s10_, s11_, s12_, s13_, s14_, s15_, s16_, s17_, s18_, s19_, s20_, s21_⟩
      go_simp
      with_reducible rfl
    rotate_left
    · simp only [Act.put, List.setIfInBounds_toArray, List.set_cons_zero, List.set_cons_succ]
      rfl
    refine pure_ (i := 8) (N := some 25) (v := ?_) (a' := ?_) #[true, true, true, true, false, false, true, false, true, false, false, false, false, false, false, false, false, false, false, false, false, false, false, false, false, false, false, false, false, false, false] rfl rfl (by kernel_rfl) (fun _ _ _ h => h) (Or.inl ⟨by rfl, ?_⟩) ?_ ?_
    rotate_left
    · intro w'
      go_simp
      with_reducible rfl
    rotate_left
    · simp only [Act.put, List.setIfInBounds_toArray, List.set_cons_zero, List.set_cons_succ]
      rfl
    refine one_ (i := 4) (N := some 21) #[true, true, true, true, true, false, true, false, true, false, false, false, false, false, false, false, false, false, false, false, false, false, false, false, false, false, false, false, false, false, false] rfl rfl (by kernel_rfl) (by decide) (fun K hK => ?_)
    refine value_ (v := ?_) (w1 := ?_) (by rfl) rfl ?_ ?_
    rotate_left 2
    · go_simp
      first | rfl | (constructor <;> rfl)
    have BL := Blk.new w4 44 #[.bool a0, .int .i64 a1, .bool a2, .int .u64 a3, .int .i64 a4, .int .i64 a5, .bool a6, .int .u64 a7, .int .i64 a8, .bool b0, .int .i64 b1, .bool b2, .int .u64 b3, .int .i64 b4, .int .i64 b5, .bool b6, .int .u64 b7, .int .i64 b8]
    have BA := BA.alloc (.cells #[.bool a0, .int .i64 a1, .bool a2, .int .u64 a3, .int .i64 a4, .int .i64 a5, .bool a6, .int .u64 a7, .int .i64 a8, .bool b0, .int .i64 b1, .bool b2, .int .u64 b3, .int .i64 b4, .int .i64 b5, .bool b6, .int .u64 b7, .int .i64 b8] 44)
    have BB := BB.alloc (.cells #[.bool a0, .int .i64 a1, .bool a2, .int .u64 a3, .int .i64 a4, .int .i64 a5, .bool a6, .int .u64 a7, .int .i64 a8, .bool b0, .int .i64 b1, .bool b2, .int .u64 b3, .int .i64 b4, .int .i64 b5, .bool b6, .int .u64 b7, .int .i64 b8] 44)
    have BN := BN.alloc (.cells #[.bool a0, .int .i64 a1, .bool a2, .int .u64 a3, .int .i64 a4, .int .i64 a5, .bool a6, .int .u64 a7, .int .i64 a8, .bool b0, .int .i64 b1, .bool b2, .int .u64 b3, .int .i64 b4, .int .i64 b5, .bool b6, .int .u64 b7, .int .i64 b8] 44)
    have HB := bl_alloc HB (.cells #[.bool a0, .int .i64 a1, .bool a2, .int .u64 a3, .int .i64 a4, .int .i64 a5, .bool a6, .int .u64 a7, .int .i64 a8, .bool b0, .int .i64 b1, .bool b2, .int .u64 b3, .int .i64 b4, .int .i64 b5, .bool b6, .int .u64 b7, .int .i64 b8] 44)
    refine hK.out _ _ ⟨BA.cell 0, BA.cell 1, BA.cell 2, BA.cell 3, BA.cell 4, BA.cell 5, BA.cell 6, BA.cell 7, BA.cell 8, BB.cell 0, BB.cell 1, BB.cell 2, BB.cell 3, BB.cell 4, BB.cell 5, BB.cell 6, BB.cell 7, BB.cell 8, BN.cell 0, BN.cell 1, BN.cell 2, BN.cell 3⟩ (fun hHeld => ?_)
    clear hK K
    refine norm_ (a' := ?_) ?_ ?_
    rotate_left
    · show Act.put _ (some 21) _ = _
      simp only [Act.put, List.setIfInBounds_toArray, List.set_cons_zero, List.set_cons_succ]
      rfl
    refine one_ (i := 5) (N := some 22) #[true, true, true, true, true, true, true, false, true, false, false, false, false, false, false, false, false, false, false, false, false, false, false, false, false, false, false, false, false, false, false] rfl rfl (by kernel_rfl) (by decide) (fun K hK => ?_)
    refine goes_ Try.func29 (by kernel_rfl) rfl #[.slice (some ⟨w4.heap.size, 0, none⟩) 2 2] (by rfl) rfl rfl (by simp only [List.map_toArray, List.map_cons, List.map_nil] <;> rfl) ?_
    with_reducible refine (HM.out _ _ (SlI.lit2 (x := ⟨a0, ⟨a1, a2, a3, a4⟩, ⟨a5, a6, a7, a8⟩⟩) (y := ⟨b0, ⟨b1, b2, b3, b4⟩, ⟨b5, b6, b7, b8⟩⟩) BL BL.lt)).mono ?_
    rintro e w5 ⟨rfl, hb⟩
    refine ⟨_, rfl, ?_⟩
    have BA := BA.call hb
    have BB := BB.call hb
    have BN := BN.call hb
    have HB := bl_trans HB hb
    refine hK.out _ _ ⟨BA.cell 0, BA.cell 1, BA.cell 2, BA.cell 3, BA.cell 4, BA.cell 5, BA.cell 6, BA.cell 7, BA.cell 8, BB.cell 0, BB.cell 1, BB.cell 2, BB.cell 3, BB.cell 4, BB.cell 5, BB.cell 6, BB.cell 7, BB.cell 8, BN.cell 0, BN.cell 1, BN.cell 2, BN.cell 3⟩ (fun hHeld => ?_)
    clear hK K hb
    refine norm_ (a' := ?_) ?_ ?_
    rotate_left
    · show Act.put _ (some 22) _ = _
      simp only [Act.put, List.setIfInBounds_toArray, List.set_cons_zero, List.set_cons_succ]
      rfl
    refine one_ (i := 7) (N := some 24) #[true, true, true, true, true, true, true, true, true, false, false, false, false, false, false, false, false, false, false, false, false, false, false, false, false, false, false, false, false, false, false] rfl rfl (by kernel_rfl) (by decide) (fun K hK => ?_)
    refine goes_ Try.func34 (by kernel_rfl) rfl #[.agg #[.bool m0, .int .i64 m1, .bool m2, .int .u64 m3, .int .i64 m4, .int .i64 m5, .bool m6, .int .u64 m7, .int .i64 m8], .agg #[.int .i64 n0, .bool n1, .int .u64 n2, .int .i64 n3]] (by rfl) rfl rfl (by simp only [List.map_toArray, List.map_cons, List.map_nil] <;> rfl) ?_
    with_reducible refine (HP.out _).mono ?_
    rintro e w6 ⟨rfl, hb⟩
    refine ⟨_, rfl, ?_⟩
    have BA := BA.call hb
    have BB := BB.call hb
    have BN := BN.call hb
    have HB := bl_trans HB hb
    refine hK.out _ _ ⟨BA.cell 0, BA.cell 1, BA.cell 2, BA.cell 3, BA.cell 4, BA.cell 5, BA.cell 6, BA.cell 7, BA.cell 8, BB.cell 0, BB.cell 1, BB.cell 2, BB.cell 3, BB.cell 4, BB.cell 5, BB.cell 6, BB.cell 7, BB.cell 8, BN.cell 0, BN.cell 1, BN.cell 2, BN.cell 3⟩ (fun hHeld => ?_)
    clear hK K hb
    refine norm_ (a' := ?_) ?_ ?_
    rotate_left
    · show Act.put _ (some 24) _ = _
      simp only [Act.put, List.setIfInBounds_toArray, List.set_cons_zero, List.set_cons_succ]
      rfl
    refine pure_ (i := 9) (N := some 26) (v := ?_) (a' := ?_) #[true, true, true, true, true, true, true, true, true, true, false, false, false, false, false, false, false, false, false, false, false, false, false, false, false, false, false, false, false, false, false] rfl rfl (by kernel_rfl) (fun _ _ _ h => h) (Or.inl ⟨by rfl, ?_⟩) ?_ ?_
    rotate_left
    · intro w'
      go_simp
      with_reducible rfl
    rotate_left
    · simp only [Act.put, List.setIfInBounds_toArray, List.set_cons_zero, List.set_cons_succ]
      rfl
    refine pure_ (i := 10) (N := some 27) (v := undef) (a' := ?_) #[true, true, true, true, true, true, true, true, true, true, true, false, false, false, false, false, false, false, false, false, false, false, false, false, false, false, false, false, false, false, false] rfl rfl (by kernel_rfl) (fun _ _ _ h => h) (Or.inr ⟨by rfl, rfl⟩) ?_ ?_
    rotate_left
    · simp only [Act.put, List.setIfInBounds_toArray, List.set_cons_zero, List.set_cons_succ]
      rfl
    refine pure_ (i := 11) (N := some 28) (v := ?_) (a' := ?_) #[true, true, true, true, true, true, true, true, true, true, true, true, false, false, false, false, false, false, false, false, false, false, false, false, false, false, false, false, false, false, false] rfl rfl (by kernel_rfl) (fun _ _ _ h => h) (Or.inl ⟨by rfl, ?_⟩) ?_ ?_
    rotate_left
    · intro w'
      go_simp
      with_reducible rfl
    rotate_left
    · simp only [Act.put, List.setIfInBounds_toArray, List.set_cons_zero, List.set_cons_succ]
      rfl
    refine pure_ (i := 12) (N := some 29) (v := ?_) (a' := ?_) #[true, true, true, true, true, true, true, true, true, true, true, true, true, false, false, false, false, false, false, false, false, false, false, false, false, false, false, false, false, false, false] rfl rfl (by kernel_rfl) (fun _ _ _ h => h) (Or.inl ⟨by rfl, ?_⟩) ?_ ?_
    rotate_left
    · intro w'
      go_simp
      with_reducible rfl
    rotate_left
    · simp only [Act.put, List.setIfInBounds_toArray, List.set_cons_zero, List.set_cons_succ]
      rfl
    refine pure_ (i := 13) (N := some 30) (v := ?_) (a' := ?_) #[true, true, true, true, true, true, true, true, true, true, true, true, true, true, false, false, false, false, false, false, false, false, false, false, false, false, false, false, false, false, false] rfl rfl (by kernel_rfl) (fun _ _ _ h => h) (Or.inl ⟨by rfl, ?_⟩) ?_ ?_
    rotate_left
    · intro w'
      go_simp
      with_reducible rfl
    rotate_left
    · simp only [Act.put, List.setIfInBounds_toArray, List.set_cons_zero, List.set_cons_succ]
      rfl
    refine pure_ (i := 14) (N := some 31) (v := ?_) (a' := ?_) #[true, true, true, true, true, true, true, true, true, true, true, true, true, true, true, false, false, false, false, false, false, false, false, false, false, false, false, false, false, false, false] rfl rfl (by kernel_rfl) (fun _ _ _ h => h) (Or.inl ⟨by rfl, ?_⟩) ?_ ?_
    rotate_left
    · intro w'
      go_simp
      with_reducible rfl
    rotate_left
    · simp only [Act.put, List.setIfInBounds_toArray, List.set_cons_zero, List.set_cons_succ]
      rfl
    refine pure_ (i := 15) (N := some 32) (v := ?_) (a' := ?_) #[true, true, true, true, true, true, true, true, true, true, true, true, true, true, true, true, false, false, false, false, false, false, false, false, false, false, false, false, false, false, false] rfl rfl (by kernel_rfl) (fun _ _ _ h => h) (Or.inl ⟨by rfl, ?_⟩) ?_ ?_
    rotate_left
    · intro w'
      go_simp
      with_reducible rfl
    rotate_left
    · simp only [Act.put, List.setIfInBounds_toArray, List.set_cons_zero, List.set_cons_succ]
      rfl
    refine pure_ (i := 16) (N := some 33) (v := ?_) (a' := ?_) #[true, true, true, true, true, true, true, true, true, true, true, true, true, true, true, true, true, false, false, false, false, false, false, false, false, false, false, false, false, false, false] rfl rfl (by kernel_rfl) (fun _ _ _ h => h) (Or.inl ⟨by rfl, ?_⟩) ?_ ?_
    rotate_left
    · intro w'
      go_simp
      with_reducible rfl
    rotate_left
    · simp only [Act.put, List.setIfInBounds_toArray, List.set_cons_zero, List.set_cons_succ]
      rfl
    refine pure_ (i := 17) (N := some 34) (v := ?_) (a' := ?_) #[true, true, true, true, true, true, true, true, true, true, true, true, true, true, true, true, true, true, false, false, false, false, false, false, false, false, false, false, false, false, false] rfl rfl (by kernel_rfl) (fun _ _ _ h => h) (Or.inl ⟨by rfl, ?_⟩) ?_ ?_
    rotate_left
    · intro w'
      go_simp
      with_reducible rfl
    rotate_left
    · simp only [Act.put, List.setIfInBounds_toArray, List.set_cons_zero, List.set_cons_succ]
      rfl
    refine pure_ (i := 18) (N := some 35) (v := ?_) (a' := ?_) #[true, true, true, true, true, true, true, true, true, true, true, true, true, true, true, true, true, true, true, false, false, false, false, false, false, false, false, false, false, false, false] rfl rfl (by kernel_rfl) (fun _ _ _ h => h) (Or.inl ⟨by rfl, ?_⟩) ?_ ?_
    rotate_left
    · intro w'
      go_simp
      with_reducible rfl
    rotate_left
    · simp only [Act.put, List.setIfInBounds_toArray, List.set_cons_zero, List.set_cons_succ]
      rfl
    refine pure_ (i := 19) (N := some 36) (v := ?_) (a' := ?_) #[true, true, true, true, true, true, true, true, true, true, true, true, true, true, true, true, true, true, true, true, false, false, false, false, false, false, false, false, false, false, false] rfl rfl (by kernel_rfl) (fun _ _ _ h => h) (Or.inl ⟨by rfl, ?_⟩) ?_ ?_
    rotate_left
    · intro w'
      go_simp
      with_reducible rfl
    rotate_left
    · simp only [Act.put, List.setIfInBounds_toArray, List.set_cons_zero, List.set_cons_succ]
      rfl
    refine pure_ (i := 20) (N := some 37) (v := ?_) (a' := ?_) #[true, true, true, true, true, true, true, true, true, true, true, true, true, true, true, true, true, true, true, true, true, false, false, false, false, false, false, false, false, false, false] rfl rfl (by kernel_rfl) (fun _ _ _ h => h) (Or.inl ⟨by rfl, ?_⟩) ?_ ?_
    rotate_left
    · intro w'
      go_simp
      with_reducible rfl
    rotate_left
    · simp only [Act.put, List.setIfInBounds_toArray, List.set_cons_zero, List.set_cons_succ]
      rfl
    refine pure_ (i := 21) (N := some 38) (v := ?_) (a' := ?_) #[true, true, true, true, true, true, true, true, true, true, true, true, true, true, true, true, true, true, true, true, true, true, false, false, false, false, false, false, false, false, false] rfl rfl (by kernel_rfl) (fun _ _ _ h => h) (Or.inl ⟨by rfl, ?_⟩) ?_ ?_
    rotate_left
    · intro w'
      go_simp
      with_reducible rfl
    rotate_left
    · simp only [Act.put, List.setIfInBounds_toArray, List.set_cons_zero, List.set_cons_succ]
      rfl
    refine pure_ (i := 22) (N := some 39) (v := undef) (a' := ?_) #[true, true, true, true, true, true, true, true, true, true, true, true, true, true, true, true, true, true, true, true, true, true, true, false, false, false, false, false, false, false, false] rfl rfl (by kernel_rfl) (fun _ _ _ h => h) (Or.inr ⟨by rfl, rfl⟩) ?_ ?_
    rotate_left
    · simp only [Act.put, List.setIfInBounds_toArray, List.set_cons_zero, List.set_cons_succ]
      rfl
    refine pure_ (i := 23) (N := some 40) (v := undef) (a' := ?_) #[true, true, true, true, true, true, true, true, true, true, true, true, true, true, true, true, true, true, true, true, true, true, true, true, false, false, false, false, false, false, false] rfl rfl (by kernel_rfl) (fun _ _ _ h => h) (Or.inr ⟨by rfl, rfl⟩) ?_ ?_
    rotate_left
    · simp only [Act.put, List.setIfInBounds_toArray, List.set_cons_zero, List.set_cons_succ]
      rfl
    refine pure_ (i := 24) (N := some 41) (v := undef) (a' := ?_) #[true, true, true, true, true, true, true, true, true, true, true, true, true, true, true, true, true, true, true, true, true, true, true, true, true, false, false, false, false, false, false] rfl rfl (by kernel_rfl) (fun _ _ _ h => h) (Or.inr ⟨by rfl, rfl⟩) ?_ ?_
    rotate_left
    · simp only [Act.put, List.setIfInBounds_toArray, List.set_cons_zero, List.set_cons_succ]
      rfl
    refine pure_ (i := 25) (N := some 42) (v := undef) (a' := ?_) #[true, true, true, true, true, true, true, true, true, true, true, true, true, true, true, true, true, true, true, true, true, true, true, true, true, true, false, false, false, false, false] rfl rfl (by kernel_rfl) (fun _ _ _ h => h) (Or.inr ⟨by rfl, rfl⟩) ?_ ?_
    rotate_left
    · simp only [Act.put, List.setIfInBounds_toArray, List.set_cons_zero, List.set_cons_succ]
      rfl
    refine pure_ (i := 26) (N := some 43) (v := undef) (a' := ?_) #[true, true, true, true, true, true, true, true, true, true, true, true, true, true, true, true, true, true, true, true, true, true, true, true, true, true, true, false, false, false, false] rfl rfl (by kernel_rfl) (fun _ _ _ h => h) (Or.inr ⟨by rfl, rfl⟩) ?_ ?_
    rotate_left
    · simp only [Act.put, List.setIfInBounds_toArray, List.set_cons_zero, List.set_cons_succ]
      rfl
    refine pure_ (i := 27) (N := some 44) (v := undef) (a' := ?_) #[true, true, true, true, true, true, true, true, true, true, true, true, true, true, true, true, true, true, true, true, true, true, true, true, true, true, true, true, false, false, false] rfl rfl (by kernel_rfl) (fun _ _ _ h => h) (Or.inr ⟨by rfl, rfl⟩) ?_ ?_
    rotate_left
    · simp only [Act.put, List.setIfInBounds_toArray, List.set_cons_zero, List.set_cons_succ]
      rfl
    refine pure_ (i := 28) (N := some 45) (v := ?_) (a' := ?_) #[true, true, true, true, true, true, true, true, true, true, true, true, true, true, true, true, true, true, true, true, true, true, true, true, true, true, true, true, true, false, false] rfl rfl (by kernel_rfl) (fun _ _ _ h => h) (Or.inl ⟨by rfl, ?_⟩) ?_ ?_
    rotate_left
    · intro w'
      go_simp
      with_reducible rfl
    rotate_left
    · simp only [Act.put, List.setIfInBounds_toArray, List.set_cons_zero, List.set_cons_succ]
      rfl
    refine pure_ (i := 29) (N := some 46) (v := ?_) (a' := ?_) #[true, true, true, true, true, true, true, true, true, true, true, true, true, true, true, true, true, true, true, true, true, true, true, true, true, true, true, true, true, true, false] rfl rfl (by kernel_rfl) (fun _ _ _ h => h) (Or.inl ⟨by rfl, ?_⟩) ?_ ?_
    rotate_left
    · intro w'
      go_simp
      with_reducible rfl
    rotate_left
    · simp only [Act.put, List.setIfInBounds_toArray, List.set_cons_zero, List.set_cons_succ]
      rfl
    refine pure_ (i := 30) (N := some 6) (v := ?_) (a' := ?_) #[true, true, true, true, true, true, true, true, true, true, true, true, true, true, true, true, true, true, true, true, true, true, true, true, true, true, true, true, true, true, true] rfl rfl (by kernel_rfl) (fun _ _ _ h => h) (Or.inl ⟨by rfl, ?_⟩) ?_ ?_
    rotate_left
    · intro w'
      go_simp
      with_reducible rfl
    rotate_left
    · simp only [Act.put, List.setIfInBounds_toArray, List.set_cons_zero, List.set_cons_succ]
      rfl
    refine done_ (by kernel_rfl) ?_
    go_wp2
    go_ret
    exact ⟨rfl, HB⟩
  · obtain rfl : q = true := g (.inr rfl)
    refine start_ (n := 31) (S := fun w' => w'.cell? ⟨w.heap.size, 0, none⟩ = some (.bool a0) ∧ w'.cell? ⟨w.heap.size, 1, none⟩ = some (.int .i64 a1) ∧ w'.cell? ⟨w.heap.size, 2, none⟩ = some (.bool a2) ∧ w'.cell? ⟨w.heap.size, 3, none⟩ = some (.int .u64 a3) ∧ w'.cell? ⟨w.heap.size, 4, none⟩ = some (.int .i64 a4) ∧ w'.cell? ⟨w.heap.size, 5, none⟩ = some (.int .i64 a5) ∧ w'.cell? ⟨w.heap.size, 6, none⟩ = some (.bool a6) ∧ w'.cell? ⟨w.heap.size, 7, none⟩ = some (.int .u64 a7) ∧ w'.cell? ⟨w.heap.size, 8, none⟩ = some (.int .i64 a8) ∧ w'.cell? ⟨(w.heap.size + 1), 0, none⟩ = some (.bool b0) ∧ w'.cell? ⟨(w.heap.size + 1), 1, none⟩ = some (.int .i64 b1) ∧ w'.cell? ⟨(w.heap.size + 1), 2, none⟩ = some (.bool b2) ∧ w'.cell? ⟨(w.heap.size + 1), 3, none⟩ = some (.int .u64 b3) ∧ w'.cell? ⟨(w.heap.size + 1), 4, none⟩ = some (.int .i64 b4) ∧ w'.cell? ⟨(w.heap.size + 1), 5, none⟩ = some (.int .i64 b5) ∧ w'.cell? ⟨(w.heap.size + 1), 6, none⟩ = some (.bool b6) ∧ w'.cell? ⟨(w.heap.size + 1), 7, none⟩ = some (.int .u64 b7) ∧ w'.cell? ⟨(w.heap.size + 1), 8, none⟩ = some (.int .i64 b8) ∧ w'.cell? ⟨(w.heap.size + 1 + 1), 0, none⟩ = some (.int .i64 n0) ∧ w'.cell? ⟨(w.heap.size + 1 + 1), 1, none⟩ = some (.bool n1) ∧ w'.cell? ⟨(w.heap.size + 1 + 1), 2, none⟩ = some (.int .u64 n2) ∧ w'.cell? ⟨(w.heap.size + 1 + 1), 3, none⟩ = some (.int .i64 n3)) (ds := []) #[false, false, false, false, false, false, false, false, false, false, false, false, false, false, false, false, false, false, false, false, false, false, false, false, false, false, false, false, false, false, false] (by kernel_rfl) rfl rfl ⟨BA.cell 0, BA.cell 1, BA.cell 2, BA.cell 3, BA.cell 4, BA.cell 5, BA.cell 6, BA.cell 7, BA.cell 8, BB.cell 0, BB.cell 1, BB.cell 2, BB.cell 3, BB.cell 4, BB.cell 5, BB.cell 6, BB.cell 7, BB.cell 8, BN.cell 0, BN.cell 1, BN.cell 2, BN.cell 3⟩ (fun hHeld => ?_)
    generalize w3.drew = w4 at BA BB BN HB hHeld ⊢
    refine pure_ (i := 0) (N := some 17) (v := ?_) (a' := ?_) #[true, false, false, false, false, false, false, false, false, false, false, false, false, false, false, false, false, false, false, false, false, false, false, false, false, false, false, false, false, false, false] rfl rfl (by kernel_rfl) (fun _ _ _ h => h) (Or.inl ⟨by rfl, ?_⟩) ?_ ?_
    rotate_left
    · intro w'
      go_simp
      with_reducible rfl
    rotate_left
    · simp only [Act.put, List.setIfInBounds_toArray, List.set_cons_zero, List.set_cons_succ]
      rfl
    refine pure_ (i := 1) (N := some 18) (v := ?_) (a' := ?_) #[true, true, false, false, false, false, false, false, false, false, false, false, false, false, false, false, false, false, false, false, false, false, false, false, false, false, false, false, false, false, false] rfl rfl (by kernel_rfl) (fun _ _ _ h => h) (Or.inl ⟨by rfl, ?_⟩) ?_ ?_
    rotate_left
    · intro w'
      go_simp
      with_reducible rfl
    rotate_left
    · simp only [Act.put, List.setIfInBounds_toArray, List.set_cons_zero, List.set_cons_succ]
      rfl
    refine take_ (i := 2) (N := some 19) (v := ?_) (a' := ?_) #[true, true, true, false, false, false, false, false, false, false, false, false, false, false, false, false, false, false, false, false, false, false, false, false, false, false, false, false, false, false, false] rfl rfl (by kernel_rfl) (fun _ _ _ h => h) (Or.inl ⟨by rfl, ?_⟩) hHeld ?_ ?_
    rotate_left
    · rintro w' ⟨s0_, s1_, s2_, s3_, s4_, s5_, s6_, s7_, s8_, s9_, s10_, s11_, s12_, s13_, s14_, s15_, s16_, s17_, s18_, s19_, s20_, s21_⟩
      go_simp
      with_reducible rfl
    rotate_left
    · simp only [Act.put, List.setIfInBounds_toArray, List.set_cons_zero, List.set_cons_succ]
      rfl
    refine take_ (i := 3) (N := some 20) (v := ?_) (a' := ?_) #[true, true, true, true, false, false, false, false, false, false, false, false, false, false, false, false, false, false, false, false, false, false, false, false, false, false, false, false, false, false, false] rfl rfl (by kernel_rfl) (fun _ _ _ h => h) (Or.inl ⟨by rfl, ?_⟩) hHeld ?_ ?_
    rotate_left
    · rintro w' ⟨s0_, s1_, s2_, s3_, s4_, s5_, s6_, s7_, s8_, s9_, s10_, s11_, s12_, s13_, s14_, s15_, s16_, s17_, s18_, s19_, s20_, s21_⟩
      go_simp
      with_reducible rfl
    rotate_left
    · simp only [Act.put, List.setIfInBounds_toArray, List.set_cons_zero, List.set_cons_succ]
      rfl
    refine take_ (i := 6) (N := some 23) (v := ?_) (a' := ?_) #[true, true, true, true, false, false, true, false, false, false, false, false, false, false, false, false, false, false, false, false, false, false, false, false, false, false, false, false, false, false, false] rfl rfl (by kernel_rfl) (fun _ _ _ h => h) (Or.inl ⟨by rfl, ?_⟩) hHeld ?_ ?_
    rotate_left
    · rintro w' ⟨s0_, s1_, s2_, s3_, s4_, s5_, s6_, s7_, s8_, s9_, s10_, s11_, s12_, s13_, s14_, s15_, s16_, s17_, s18_, s19_, s20_, s21_⟩
      go_simp
      with_reducible rfl
    rotate_left
    · simp only [Act.put, List.setIfInBounds_toArray, List.set_cons_zero, List.set_cons_succ]
      rfl
    refine pure_ (i := 8) (N := some 25) (v := ?_) (a' := ?_) #[true, true, true, true, false, false, true, false, true, false, false, false, false, false, false, false, false, false, false, false, false, false, false, false, false, false, false, false, false, false, false] rfl rfl (by kernel_rfl) (fun _ _ _ h => h) (Or.inl ⟨by rfl, ?_⟩) ?_ ?_
    rotate_left
    · intro w'
      go_simp
      with_reducible rfl
    rotate_left
    · simp only [Act.put, List.setIfInBounds_toArray, List.set_cons_zero, List.set_cons_succ]
      rfl
    refine one_ (i := 4) (N := some 21) #[true, true, true, true, true, false, true, false, true, false, false, false, false, false, false, false, false, false, false, false, false, false, false, false, false, false, false, false, false, false, false] rfl rfl (by kernel_rfl) (by decide) (fun K hK => ?_)
    refine value_ (v := ?_) (w1 := ?_) (by rfl) rfl ?_ ?_
    rotate_left 2
    · go_simp
      first | rfl | (constructor <;> rfl)
    have BL := Blk.new w4 44 #[.bool a0, .int .i64 a1, .bool a2, .int .u64 a3, .int .i64 a4, .int .i64 a5, .bool a6, .int .u64 a7, .int .i64 a8, .bool b0, .int .i64 b1, .bool b2, .int .u64 b3, .int .i64 b4, .int .i64 b5, .bool b6, .int .u64 b7, .int .i64 b8]
    have BA := BA.alloc (.cells #[.bool a0, .int .i64 a1, .bool a2, .int .u64 a3, .int .i64 a4, .int .i64 a5, .bool a6, .int .u64 a7, .int .i64 a8, .bool b0, .int .i64 b1, .bool b2, .int .u64 b3, .int .i64 b4, .int .i64 b5, .bool b6, .int .u64 b7, .int .i64 b8] 44)
    have BB := BB.alloc (.cells #[.bool a0, .int .i64 a1, .bool a2, .int .u64 a3, .int .i64 a4, .int .i64 a5, .bool a6, .int .u64 a7, .int .i64 a8, .bool b0, .int .i64 b1, .bool b2, .int .u64 b3, .int .i64 b4, .int .i64 b5, .bool b6, .int .u64 b7, .int .i64 b8] 44)
    have BN := BN.alloc (.cells #[.bool a0, .int .i64 a1, .bool a2, .int .u64 a3, .int .i64 a4, .int .i64 a5, .bool a6, .int .u64 a7, .int .i64 a8, .bool b0, .int .i64 b1, .bool b2, .int .u64 b3, .int .i64 b4, .int .i64 b5, .bool b6, .int .u64 b7, .int .i64 b8] 44)
    have HB := bl_alloc HB (.cells #[.bool a0, .int .i64 a1, .bool a2, .int .u64 a3, .int .i64 a4, .int .i64 a5, .bool a6, .int .u64 a7, .int .i64 a8, .bool b0, .int .i64 b1, .bool b2, .int .u64 b3, .int .i64 b4, .int .i64 b5, .bool b6, .int .u64 b7, .int .i64 b8] 44)
    refine hK.out _ _ ⟨BA.cell 0, BA.cell 1, BA.cell 2, BA.cell 3, BA.cell 4, BA.cell 5, BA.cell 6, BA.cell 7, BA.cell 8, BB.cell 0, BB.cell 1, BB.cell 2, BB.cell 3, BB.cell 4, BB.cell 5, BB.cell 6, BB.cell 7, BB.cell 8, BN.cell 0, BN.cell 1, BN.cell 2, BN.cell 3⟩ (fun hHeld => ?_)
    clear hK K
    refine norm_ (a' := ?_) ?_ ?_
    rotate_left
    · show Act.put _ (some 21) _ = _
      simp only [Act.put, List.setIfInBounds_toArray, List.set_cons_zero, List.set_cons_succ]
      rfl
    refine one_ (i := 5) (N := some 22) #[true, true, true, true, true, true, true, false, true, false, false, false, false, false, false, false, false, false, false, false, false, false, false, false, false, false, false, false, false, false, false] rfl rfl (by kernel_rfl) (by decide) (fun K hK => ?_)
    refine goes_ Try.func29 (by kernel_rfl) rfl #[.slice (some ⟨w4.heap.size, 0, none⟩) 2 2] (by rfl) rfl rfl (by simp only [List.map_toArray, List.map_cons, List.map_nil] <;> rfl) ?_
    with_reducible refine (HM.out _ _ (SlI.lit2 (x := ⟨a0, ⟨a1, a2, a3, a4⟩, ⟨a5, a6, a7, a8⟩⟩) (y := ⟨b0, ⟨b1, b2, b3, b4⟩, ⟨b5, b6, b7, b8⟩⟩) BL BL.lt)).mono ?_
    rintro e w5 ⟨rfl, hb⟩
    refine ⟨_, rfl, ?_⟩
    have BA := BA.call hb
    have BB := BB.call hb
    have BN := BN.call hb
    have HB := bl_trans HB hb
    refine hK.out _ _ ⟨BA.cell 0, BA.cell 1, BA.cell 2, BA.cell 3, BA.cell 4, BA.cell 5, BA.cell 6, BA.cell 7, BA.cell 8, BB.cell 0, BB.cell 1, BB.cell 2, BB.cell 3, BB.cell 4, BB.cell 5, BB.cell 6, BB.cell 7, BB.cell 8, BN.cell 0, BN.cell 1, BN.cell 2, BN.cell 3⟩ (fun hHeld => ?_)
    clear hK K hb
    refine norm_ (a' := ?_) ?_ ?_
    rotate_left
    · show Act.put _ (some 22) _ = _
      simp only [Act.put, List.setIfInBounds_toArray, List.set_cons_zero, List.set_cons_succ]
      rfl
    refine one_ (i := 7) (N := some 24) #[true, true, true, true, true, true, true, true, true, false, false, false, false, false, false, false, false, false, false, false, false, false, false, false, false, false, false, false, false, false, false] rfl rfl (by kernel_rfl) (by decide) (fun K hK => ?_)
    refine goes_ Try.func34 (by kernel_rfl) rfl #[.agg #[.bool m0, .int .i64 m1, .bool m2, .int .u64 m3, .int .i64 m4, .int .i64 m5, .bool m6, .int .u64 m7, .int .i64 m8], .agg #[.int .i64 n0, .bool n1, .int .u64 n2, .int .i64 n3]] (by rfl) rfl rfl (by simp only [List.map_toArray, List.map_cons, List.map_nil] <;> rfl) ?_
    with_reducible refine (HP.out _).mono ?_
    rintro e w6 ⟨rfl, hb⟩
    refine ⟨_, rfl, ?_⟩
    have BA := BA.call hb
    have BB := BB.call hb
    have BN := BN.call hb
    have HB := bl_trans HB hb
    refine hK.out _ _ ⟨BA.cell 0, BA.cell 1, BA.cell 2, BA.cell 3, BA.cell 4, BA.cell 5, BA.cell 6, BA.cell 7, BA.cell 8, BB.cell 0, BB.cell 1, BB.cell 2, BB.cell 3, BB.cell 4, BB.cell 5, BB.cell 6, BB.cell 7, BB.cell 8, BN.cell 0, BN.cell 1, BN.cell 2, BN.cell 3⟩ (fun hHeld => ?_)
    clear hK K hb
    refine norm_ (a' := ?_) ?_ ?_
    rotate_left
    · show Act.put _ (some 24) _ = _
      simp only [Act.put, List.setIfInBounds_toArray, List.set_cons_zero, List.set_cons_succ]
      rfl
    refine pure_ (i := 9) (N := some 26) (v := ?_) (a' := ?_) #[true, true, true, true, true, true, true, true, true, true, false, false, false, false, false, false, false, false, false, false, false, false, false, false, false, false, false, false, false, false, false] rfl rfl (by kernel_rfl) (fun _ _ _ h => h) (Or.inl ⟨by rfl, ?_⟩) ?_ ?_
    rotate_left
    · intro w'
      go_simp
      with_reducible rfl
    rotate_left
    · simp only [Act.put, List.setIfInBounds_toArray, List.set_cons_zero, List.set_cons_succ]
      rfl
    refine pure_ (i := 10) (N := some 27) (v := undef) (a' := ?_) #[true, true, true, true, true, true, true, true, true, true, true, false, false, false, false, false, false, false, false, false, false, false, false, false, false, false, false, false, false, false, false] rfl rfl (by kernel_rfl) (fun _ _ _ h => h) (Or.inr ⟨by rfl, rfl⟩) ?_ ?_
    rotate_left
    · simp only [Act.put, List.setIfInBounds_toArray, List.set_cons_zero, List.set_cons_succ]
      rfl
    refine pure_ (i := 11) (N := some 28) (v := ?_) (a' := ?_) #[true, true, true, true, true, true, true, true, true, true, true, true, false, false, false, false, false, false, false, false, false, false, false, false, false, false, false, false, false, false, false] rfl rfl (by kernel_rfl) (fun _ _ _ h => h) (Or.inl ⟨by rfl, ?_⟩) ?_ ?_
    rotate_left
    · intro w'
      go_simp
      with_reducible rfl
    rotate_left
    · simp only [Act.put, List.setIfInBounds_toArray, List.set_cons_zero, List.set_cons_succ]
      rfl
    refine pure_ (i := 12) (N := some 29) (v := ?_) (a' := ?_) #[true, true, true, true, true, true, true, true, true, true, true, true, true, false, false, false, false, false, false, false, false, false, false, false, false, false, false, false, false, false, false] rfl rfl (by kernel_rfl) (fun _ _ _ h => h) (Or.inl ⟨by rfl, ?_⟩) ?_ ?_
    rotate_left
    · intro w'
      go_simp
      with_reducible rfl
    rotate_left
    · simp only [Act.put, List.setIfInBounds_toArray, List.set_cons_zero, List.set_cons_succ]
      rfl
    refine pure_ (i := 13) (N := some 30) (v := ?_) (a' := ?_) #[true, true, true, true, true, true, true, true, true, true, true, true, true, true, false, false, false, false, false, false, false, false, false, false, false, false, false, false, false, false, false] rfl rfl (by kernel_rfl) (fun _ _ _ h => h) (Or.inl ⟨by rfl, ?_⟩) ?_ ?_
    rotate_left
    · intro w'
      go_simp
      with_reducible rfl
    rotate_left
    · simp only [Act.put, List.setIfInBounds_toArray, List.set_cons_zero, List.set_cons_succ]
      rfl
    refine pure_ (i := 14) (N := some 31) (v := ?_) (a' := ?_) #[true, true, true, true, true, true, true, true, true, true, true, true, true, true, true, false, false, false, false, false, false, false, false, false, false, false, false, false, false, false, false] rfl rfl (by kernel_rfl) (fun _ _ _ h => h) (Or.inl ⟨by rfl, ?_⟩) ?_ ?_
    rotate_left
    · intro w'
      go_simp
      with_reducible rfl
    rotate_left
    · simp only [Act.put, List.setIfInBounds_toArray, List.set_cons_zero, List.set_cons_succ]
      rfl
    refine pure_ (i := 15) (N := some 32) (v := ?_) (a' := ?_) #[true, true, true, true, true, true, true, true, true, true, true, true, true, true, true, true, false, false, false, false, false, false, false, false, false, false, false, false, false, false, false] rfl rfl (by kernel_rfl) (fun _ _ _ h => h) (Or.inl ⟨by rfl, ?_⟩) ?_ ?_
    rotate_left
    · intro w'
      go_simp
      with_reducible rfl
    rotate_left
    · simp only [Act.put, List.setIfInBounds_toArray, List.set_cons_zero, List.set_cons_succ]
      rfl
    refine pure_ (i := 16) (N := some 33) (v := ?_) (a' := ?_) #[true, true, true, true, true, true, true, true, true, true, true, true, true, true, true, true, true, false, false, false, false, false, false, false, false, false, false, false, false, false, false] rfl rfl (by kernel_rfl) (fun _ _ _ h => h) (Or.inl ⟨by rfl, ?_⟩) ?_ ?_
    rotate_left
    · intro w'
      go_simp
      with_reducible rfl
    rotate_left
    · simp only [Act.put, List.setIfInBounds_toArray, List.set_cons_zero, List.set_cons_succ]
      rfl
    refine pure_ (i := 17) (N := some 34) (v := ?_) (a' := ?_) #[true, true, true, true, true, true, true, true, true, true, true, true, true, true, true, true, true, true, false, false, false, false, false, false, false, false, false, false, false, false, false] rfl rfl (by kernel_rfl) (fun _ _ _ h => h) (Or.inl ⟨by rfl, ?_⟩) ?_ ?_
    rotate_left
    · intro w'
      go_simp
      with_reducible rfl
    rotate_left
    · simp only [Act.put, List.setIfInBounds_toArray, List.set_cons_zero, List.set_cons_succ]
      rfl
    refine pure_ (i := 18) (N := some 35) (v := ?_) (a' := ?_) #[true, true, true, true, true, true, true, true, true, true, true, true, true, true, true, true, true, true, true, false, false, false, false, false, false, false, false, false, false, false, false] rfl rfl (by kernel_rfl) (fun _ _ _ h => h) (Or.inl ⟨by rfl, ?_⟩) ?_ ?_
    rotate_left
    · intro w'
      go_simp
      with_reducible rfl
    rotate_left
    · simp only [Act.put, List.setIfInBounds_toArray, List.set_cons_zero, List.set_cons_succ]
      rfl
    refine pure_ (i := 19) (N := some 36) (v := ?_) (a' := ?_) #[true, true, true, true, true, true, true, true, true, true, true, true, true, true, true, true, true, true, true, true, false, false, false, false, false, false, false, false, false, false, false] rfl rfl (by kernel_rfl) (fun _ _ _ h => h) (Or.inl ⟨by rfl, ?_⟩) ?_ ?_
    rotate_left
    · intro w'
      go_simp
      with_reducible rfl
    rotate_left
    · simp only [Act.put, List.setIfInBounds_toArray, List.set_cons_zero, List.set_cons_succ]
      rfl
    refine pure_ (i := 20) (N := some 37) (v := ?_) (a' := ?_) #[true, true, true, true, true, true, true, true, true, true, true, true, true, true, true, true, true, true, true, true, true, false, false, false, false, false, false, false, false, false, false] rfl rfl (by kernel_rfl) (fun _ _ _ h => h) (Or.inl ⟨by rfl, ?_⟩) ?_ ?_
    rotate_left
    · intro w'
      go_simp
      with_reducible rfl
    rotate_left
    · simp only [Act.put, List.setIfInBounds_toArray, List.set_cons_zero, List.set_cons_succ]
      rfl
    refine pure_ (i := 21) (N := some 38) (v := ?_) (a' := ?_) #[true, true, true, true, true, true, true, true, true, true, true, true, true, true, true, true, true, true, true, true, true, true, false, false, false, false, false, false, false, false, false] rfl rfl (by kernel_rfl) (fun _ _ _ h => h) (Or.inl ⟨by rfl, ?_⟩) ?_ ?_
    rotate_left
    · intro w'
      go_simp
      with_reducible rfl
    rotate_left
    · simp only [Act.put, List.setIfInBounds_toArray, List.set_cons_zero, List.set_cons_succ]
      rfl
    refine take_ (i := 22) (N := some 39) (v := ?_) (a' := ?_) #[true, true, true, true, true, true, true, true, true, true, true, true, true, true, true, true, true, true, true, true, true, true, true, false, false, false, false, false, false, false, false] rfl rfl (by kernel_rfl) (fun _ _ _ h => h) (Or.inl ⟨by rfl, ?_⟩) hHeld ?_ ?_
    rotate_left
    · rintro w' ⟨s0_, s1_, s2_, s3_, s4_, s5_, s6_, s7_, s8_, s9_, s10_, s11_, s12_, s13_, s14_, s15_, s16_, s17_, s18_, s19_, s20_, s21_⟩
      go_simp
      with_reducible rfl
    rotate_left
    · simp only [Act.put, List.setIfInBounds_toArray, List.set_cons_zero, List.set_cons_succ]
      rfl
    refine take_ (i := 23) (N := some 40) (v := ?_) (a' := ?_) #[true, true, true, true, true, true, true, true, true, true, true, true, true, true, true, true, true, true, true, true, true, true, true, true, false, false, false, false, false, false, false] rfl rfl (by kernel_rfl) (fun _ _ _ h => h) (Or.inl ⟨by rfl, ?_⟩) hHeld ?_ ?_
    rotate_left
    · rintro w' ⟨s0_, s1_, s2_, s3_, s4_, s5_, s6_, s7_, s8_, s9_, s10_, s11_, s12_, s13_, s14_, s15_, s16_, s17_, s18_, s19_, s20_, s21_⟩
      go_simp
      with_reducible rfl
    rotate_left
    · simp only [Act.put, List.setIfInBounds_toArray, List.set_cons_zero, List.set_cons_succ]
      rfl
    refine take_ (i := 26) (N := some 43) (v := ?_) (a' := ?_) #[true, true, true, true, true, true, true, true, true, true, true, true, true, true, true, true, true, true, true, true, true, true, true, true, false, false, true, false, false, false, false] rfl rfl (by kernel_rfl) (fun _ _ _ h => h) (Or.inl ⟨by rfl, ?_⟩) hHeld ?_ ?_
    rotate_left
    · rintro w' ⟨s0_, s1_, s2_, s3_, s4_, s5_, s6_, s7_, s8_, s9_, s10_, s11_, s12_, s13_, s14_, s15_, s16_, s17_, s18_, s19_, s20_, s21_⟩
      go_simp
      with_reducible rfl
    rotate_left
    · simp only [Act.put, List.setIfInBounds_toArray, List.set_cons_zero, List.set_cons_succ]
      rfl
    refine one_ (i := 24) (N := some 41) #[true, true, true, true, true, true, true, true, true, true, true, true, true, true, true, true, true, true, true, true, true, true, true, true, true, false, true, false, false, false, false] rfl rfl (by kernel_rfl) (by decide) (fun K hK => ?_)
    refine value_ (v := ?_) (w1 := ?_) (by rfl) rfl ?_ ?_
    rotate_left 2
    · go_simp
      first | rfl | (constructor <;> rfl)
    have BL := Blk.new w6 44 #[.bool a0, .int .i64 a1, .bool a2, .int .u64 a3, .int .i64 a4, .int .i64 a5, .bool a6, .int .u64 a7, .int .i64 a8, .bool b0, .int .i64 b1, .bool b2, .int .u64 b3, .int .i64 b4, .int .i64 b5, .bool b6, .int .u64 b7, .int .i64 b8]
    have BA := BA.alloc (.cells #[.bool a0, .int .i64 a1, .bool a2, .int .u64 a3, .int .i64 a4, .int .i64 a5, .bool a6, .int .u64 a7, .int .i64 a8, .bool b0, .int .i64 b1, .bool b2, .int .u64 b3, .int .i64 b4, .int .i64 b5, .bool b6, .int .u64 b7, .int .i64 b8] 44)
    have BB := BB.alloc (.cells #[.bool a0, .int .i64 a1, .bool a2, .int .u64 a3, .int .i64 a4, .int .i64 a5, .bool a6, .int .u64 a7, .int .i64 a8, .bool b0, .int .i64 b1, .bool b2, .int .u64 b3, .int .i64 b4, .int .i64 b5, .bool b6, .int .u64 b7, .int .i64 b8] 44)
    have BN := BN.alloc (.cells #[.bool a0, .int .i64 a1, .bool a2, .int .u64 a3, .int .i64 a4, .int .i64 a5, .bool a6, .int .u64 a7, .int .i64 a8, .bool b0, .int .i64 b1, .bool b2, .int .u64 b3, .int .i64 b4, .int .i64 b5, .bool b6, .int .u64 b7, .int .i64 b8] 44)
    have HB := bl_alloc HB (.cells #[.bool a0, .int .i64 a1, .bool a2, .int .u64 a3, .int .i64 a4, .int .i64 a5, .bool a6, .int .u64 a7, .int .i64 a8, .bool b0, .int .i64 b1, .bool b2, .int .u64 b3, .int .i64 b4, .int .i64 b5, .bool b6, .int .u64 b7, .int .i64 b8] 44)
    refine hK.out _ _ ⟨BA.cell 0, BA.cell 1, BA.cell 2, BA.cell 3, BA.cell 4, BA.cell 5, BA.cell 6, BA.cell 7, BA.cell 8, BB.cell 0, BB.cell 1, BB.cell 2, BB.cell 3, BB.cell 4, BB.cell 5, BB.cell 6, BB.cell 7, BB.cell 8, BN.cell 0, BN.cell 1, BN.cell 2, BN.cell 3⟩ (fun hHeld => ?_)
    clear hK K
    refine norm_ (a' := ?_) ?_ ?_
    rotate_left
    · show Act.put _ (some 41) _ = _
      simp only [Act.put, List.setIfInBounds_toArray, List.set_cons_zero, List.set_cons_succ]
      rfl
    refine one_ (i := 25) (N := some 42) #[true, true, true, true, true, true, true, true, true, true, true, true, true, true, true, true, true, true, true, true, true, true, true, true, true, true, true, false, false, false, false] rfl rfl (by kernel_rfl) (by decide) (fun K hK => ?_)
    refine goes_ Try.func30 (by kernel_rfl) rfl #[.slice (some ⟨w6.heap.size, 0, none⟩) 2 2] (by rfl) rfl rfl (by simp only [List.map_toArray, List.map_cons, List.map_nil] <;> rfl) ?_
    with_reducible refine (HH.out _ _ (SlI.lit2 (x := ⟨a0, ⟨a1, a2, a3, a4⟩, ⟨a5, a6, a7, a8⟩⟩) (y := ⟨b0, ⟨b1, b2, b3, b4⟩, ⟨b5, b6, b7, b8⟩⟩) BL BL.lt)).mono ?_
    rintro e w7 ⟨rfl, hb⟩
    refine ⟨_, rfl, ?_⟩
    have BA := BA.call hb
    have BB := BB.call hb
    have BN := BN.call hb
    have HB := bl_trans HB hb
    refine hK.out _ _ ⟨BA.cell 0, BA.cell 1, BA.cell 2, BA.cell 3, BA.cell 4, BA.cell 5, BA.cell 6, BA.cell 7, BA.cell 8, BB.cell 0, BB.cell 1, BB.cell 2, BB.cell 3, BB.cell 4, BB.cell 5, BB.cell 6, BB.cell 7, BB.cell 8, BN.cell 0, BN.cell 1, BN.cell 2, BN.cell 3⟩ (fun hHeld => ?_)
    clear hK K hb
    refine norm_ (a' := ?_) ?_ ?_
    rotate_left
    · show Act.put _ (some 42) _ = _
      simp only [Act.put, List.setIfInBounds_toArray, List.set_cons_zero, List.set_cons_succ]
      rfl
    refine one_ (i := 27) (N := some 44) #[true, true, true, true, true, true, true, true, true, true, true, true, true, true, true, true, true, true, true, true, true, true, true, true, true, true, true, true, false, false, false] rfl rfl (by kernel_rfl) (by decide) (fun K hK => ?_)
    refine goes_ Try.func34 (by kernel_rfl) rfl #[.agg #[.bool h0, .int .i64 h1, .bool h2, .int .u64 h3, .int .i64 h4, .int .i64 h5, .bool h6, .int .u64 h7, .int .i64 h8], .agg #[.int .i64 n0, .bool n1, .int .u64 n2, .int .i64 n3]] (by rfl) rfl rfl (by simp only [List.map_toArray, List.map_cons, List.map_nil] <;> rfl) ?_
    with_reducible refine (HQ.out _).mono ?_
    rintro e w8 ⟨rfl, hb⟩
    refine ⟨_, rfl, ?_⟩
    have BA := BA.call hb
    have BB := BB.call hb
    have BN := BN.call hb
    have HB := bl_trans HB hb
    refine hK.out _ _ ⟨BA.cell 0, BA.cell 1, BA.cell 2, BA.cell 3, BA.cell 4, BA.cell 5, BA.cell 6, BA.cell 7, BA.cell 8, BB.cell 0, BB.cell 1, BB.cell 2, BB.cell 3, BB.cell 4, BB.cell 5, BB.cell 6, BB.cell 7, BB.cell 8, BN.cell 0, BN.cell 1, BN.cell 2, BN.cell 3⟩ (fun hHeld => ?_)
    clear hK K hb
    refine norm_ (a' := ?_) ?_ ?_
    rotate_left
    · show Act.put _ (some 44) _ = _
      simp only [Act.put, List.setIfInBounds_toArray, List.set_cons_zero, List.set_cons_succ]
      rfl
    refine pure_ (i := 28) (N := some 45) (v := ?_) (a' := ?_) #[true, true, true, true, true, true, true, true, true, true, true, true, true, true, true, true, true, true, true, true, true, true, true, true, true, true, true, true, true, false, false] rfl rfl (by kernel_rfl) (fun _ _ _ h => h) (Or.inl ⟨by rfl, ?_⟩) ?_ ?_
    rotate_left
    · intro w'
      go_simp
      with_reducible rfl
    rotate_left
    · simp only [Act.put, List.setIfInBounds_toArray, List.set_cons_zero, List.set_cons_succ]
      rfl
    refine pure_ (i := 29) (N := some 46) (v := ?_) (a' := ?_) #[true, true, true, true, true, true, true, true, true, true, true, true, true, true, true, true, true, true, true, true, true, true, true, true, true, true, true, true, true, true, false] rfl rfl (by kernel_rfl) (fun _ _ _ h => h) (Or.inl ⟨by rfl, ?_⟩) ?_ ?_
    rotate_left
    · intro w'
      go_simp
      with_reducible rfl
    rotate_left
    · simp only [Act.put, List.setIfInBounds_toArray, List.set_cons_zero, List.set_cons_succ]
      rfl
    refine pure_ (i := 30) (N := some 6) (v := ?_) (a' := ?_) #[true, true, true, true, true, true, true, true, true, true, true, true, true, true, true, true, true, true, true, true, true, true, true, true, true, true, true, true, true, true, true] rfl rfl (by kernel_rfl) (fun _ _ _ h => h) (Or.inl ⟨by rfl, ?_⟩) ?_ ?_
    rotate_left
    · intro w'
      go_simp
      with_reducible rfl
    rotate_left
    · simp only [Act.put, List.setIfInBounds_toArray, List.set_cons_zero, List.set_cons_succ]
      rfl
    refine done_ (by kernel_rfl) ?_
    go_wp2
    go_ret
    exact ⟨rfl, HB⟩
  · obtain rfl : q = true := g (.inl rfl)
    refine start_ (n := 31) (S := fun w' => w'.cell? ⟨w.heap.size, 0, none⟩ = some (.bool a0) ∧ w'.cell? ⟨w.heap.size, 1, none⟩ = some (.int .i64 a1) ∧ w'.cell? ⟨w.heap.size, 2, none⟩ = some (.bool a2) ∧ w'.cell? ⟨w.heap.size, 3, none⟩ = some (.int .u64 a3) ∧ w'.cell? ⟨w.heap.size, 4, none⟩ = some (.int .i64 a4) ∧ w'.cell? ⟨w.heap.size, 5, none⟩ = some (.int .i64 a5) ∧ w'.cell? ⟨w.heap.size, 6, none⟩ = some (.bool a6) ∧ w'.cell? ⟨w.heap.size, 7, none⟩ = some (.int .u64 a7) ∧ w'.cell? ⟨w.heap.size, 8, none⟩ = some (.int .i64 a8) ∧ w'.cell? ⟨(w.heap.size + 1), 0, none⟩ = some (.bool b0) ∧ w'.cell? ⟨(w.heap.size + 1), 1, none⟩ = some (.int .i64 b1) ∧ w'.cell? ⟨(w.heap.size + 1), 2, none⟩ = some (.bool b2) ∧ w'.cell? ⟨(w.heap.size + 1), 3, none⟩ = some (.int .u64 b3) ∧ w'.cell? ⟨(w.heap.size + 1), 4, none⟩ = some (.int .i64 b4) ∧ w'.cell? ⟨(w.heap.size + 1), 5, none⟩ = some (.int .i64 b5) ∧ w'.cell? ⟨(w.heap.size + 1), 6, none⟩ = some (.bool b6) ∧ w'.cell? ⟨(w.heap.size + 1), 7, none⟩ = some (.int .u64 b7) ∧ w'.cell? ⟨(w.heap.size + 1), 8, none⟩ = some (.int .i64 b8) ∧ w'.cell? ⟨(w.heap.size + 1 + 1), 0, none⟩ = some (.int .i64 n0) ∧ w'.cell? ⟨(w.heap.size + 1 + 1), 1, none⟩ = some (.bool n1) ∧ w'.cell? ⟨(w.heap.size + 1 + 1), 2, none⟩ = some (.int .u64 n2) ∧ w'.cell? ⟨(w.heap.size + 1 + 1), 3, none⟩ = some (.int .i64 n3)) (ds := []) #[false, false, false, false, false, false, false, false, false, false, false, false, false, false, false, false, false, false, false, false, false, false, false, false, false, false, false, false, false, false, false] (by kernel_rfl) rfl rfl ⟨BA.cell 0, BA.cell 1, BA.cell 2, BA.cell 3, BA.cell 4, BA.cell 5, BA.cell 6, BA.cell 7, BA.cell 8, BB.cell 0, BB.cell 1, BB.cell 2, BB.cell 3, BB.cell 4, BB.cell 5, BB.cell 6, BB.cell 7, BB.cell 8, BN.cell 0, BN.cell 1, BN.cell 2, BN.cell 3⟩ (fun hHeld => ?_)
    generalize w3.drew = w4 at BA BB BN HB hHeld ⊢
    refine pure_ (i := 0) (N := some 17) (v := ?_) (a' := ?_) #[true, false, false, false, false, false, false, false, false, false, false, false, false, false, false, false, false, false, false, false, false, false, false, false, false, false, false, false, false, false, false] rfl rfl (by kernel_rfl) (fun _ _ _ h => h) (Or.inl ⟨by rfl, ?_⟩) ?_ ?_
    rotate_left
    · intro w'
      go_simp
      with_reducible rfl
    rotate_left
    · simp only [Act.put, List.setIfInBounds_toArray, List.set_cons_zero, List.set_cons_succ]
      rfl
    refine pure_ (i := 1) (N := some 18) (v := ?_) (a' := ?_) #[true, true, false, false, false, false, false, false, false, false, false, false, false, false, false, false, false, false, false, false, false, false, false, false, false, false, false, false, false, false, false] rfl rfl (by kernel_rfl) (fun _ _ _ h => h) (Or.inl ⟨by rfl, ?_⟩) ?_ ?_
    rotate_left
    · intro w'
      go_simp
      with_reducible rfl
    rotate_left
    · simp only [Act.put, List.setIfInBounds_toArray, List.set_cons_zero, List.set_cons_succ]
      rfl
    refine take_ (i := 2) (N := some 19) (v := ?_) (a' := ?_) #[true, true, true, false, false, false, false, false, false, false, false, false, false, false, false, false, false, false, false, false, false, false, false, false, false, false, false, false, false, false, false] rfl rfl (by kernel_rfl) (fun _ _ _ h => h) (Or.inl ⟨by rfl, ?_⟩) hHeld ?_ ?_
    rotate_left
    · rintro w' ⟨s0_, s1_, s2_, s3_, s4_, s5_, s6_, s7_, s8_, s9_, s10_, s11_, s12_, s13_, s14_, s15_, s16_, s17_, s18_, s19_, s20_, s21_⟩
      go_simp
      with_reducible rfl
    rotate_left
    · simp only [Act.put, List.setIfInBounds_toArray, List.set_cons_zero, List.set_cons_succ]
      rfl
    refine take_ (i := 3) (N := some 20) (v := ?_) (a' := ?_) #[true, true, true, true, false, false, false, false, false, false, false, false, false, false, false, false, false, false, false, false, false, false, false, false, false, false, false, false, false, false, false] rfl rfl (by kernel_rfl) (fun _ _ _ h => h) (Or.inl ⟨by rfl, ?_⟩) hHeld ?_ ?_
    rotate_left
    · rintro w' ⟨s0_, s1_, s2_, s3_, s4_, s5_, s6_, s7_, s8_, s9_, s10_, s11_, s12_, s13_, s14_, s15_, s16_, s17_, s18_, s19_, s20_, s21_⟩
      go_simp
      with_reducible rfl
    rotate_left
    · simp only [Act.put, List.setIfInBounds_toArray, List.set_cons_zero, List.set_cons_succ]
      rfl
    refine take_ (i := 6) (N := some 23) (v := ?_) (a' := ?_) #[true, true, true, true, false, false, true, false, false, false, false, false, false, false, false, false, false, false, false, false, false, false, false, false, false, false, false, false, false, false, false] rfl rfl (by kernel_rfl) (fun _ _ _ h => h) (Or.inl ⟨by rfl, ?_⟩) hHeld ?_ ?_
    rotate_left
    · rintro w' ⟨s0_, s1_, s2_, s3_, s4_, s5_, s6_, s7_, s8_, s9_, s10_, s11_, s12_, s13_, s14_, s15_, s16_, s17_, s18_, s19_, s20_, s21_⟩
      go_simp
      with_reducible rfl
    rotate_left
    · simp only [Act.put, List.setIfInBounds_toArray, List.set_cons_zero, List.set_cons_succ]
      rfl
    refine pure_ (i := 8) (N := some 25) (v := ?_) (a' := ?_) #[true, true, true, true, false, false, true, false, true, false, false, false, false, false, false, false, false, false, false, false, false, false, false, false, false, false, false, false, false, false, false] rfl rfl (by kernel_rfl) (fun _ _ _ h => h) (Or.inl ⟨by rfl, ?_⟩) ?_ ?_
    rotate_left
    · intro w'
      go_simp
      with_reducible rfl
    rotate_left
    · simp only [Act.put, List.setIfInBounds_toArray, List.set_cons_zero, List.set_cons_succ]
      rfl
    refine one_ (i := 4) (N := some 21) #[true, true, true, true, true, false, true, false, true, false, false, false, false, false, false, false, false, false, false, false, false, false, false, false, false, false, false, false, false, false, false] rfl rfl (by kernel_rfl) (by decide) (fun K hK => ?_)
    refine value_ (v := ?_) (w1 := ?_) (by rfl) rfl ?_ ?_
    rotate_left 2
    · go_simp
      first | rfl | (constructor <;> rfl)
    have BL := Blk.new w4 44 #[.bool a0, .int .i64 a1, .bool a2, .int .u64 a3, .int .i64 a4, .int .i64 a5, .bool a6, .int .u64 a7, .int .i64 a8, .bool b0, .int .i64 b1, .bool b2, .int .u64 b3, .int .i64 b4, .int .i64 b5, .bool b6, .int .u64 b7, .int .i64 b8]
    have BA := BA.alloc (.cells #[.bool a0, .int .i64 a1, .bool a2, .int .u64 a3, .int .i64 a4, .int .i64 a5, .bool a6, .int .u64 a7, .int .i64 a8, .bool b0, .int .i64 b1, .bool b2, .int .u64 b3, .int .i64 b4, .int .i64 b5, .bool b6, .int .u64 b7, .int .i64 b8] 44)
    have BB := BB.alloc (.cells #[.bool a0, .int .i64 a1, .bool a2, .int .u64 a3, .int .i64 a4, .int .i64 a5, .bool a6, .int .u64 a7, .int .i64 a8, .bool b0, .int .i64 b1, .bool b2, .int .u64 b3, .int .i64 b4, .int .i64 b5, .bool b6, .int .u64 b7, .int .i64 b8] 44)
    have BN := BN.alloc (.cells #[.bool a0, .int .i64 a1, .bool a2, .int .u64 a3, .int .i64 a4, .int .i64 a5, .bool a6, .int .u64 a7, .int .i64 a8, .bool b0, .int .i64 b1, .bool b2, .int .u64 b3, .int .i64 b4, .int .i64 b5, .bool b6, .int .u64 b7, .int .i64 b8] 44)
    have HB := bl_alloc HB (.cells #[.bool a0, .int .i64 a1, .bool a2, .int .u64 a3, .int .i64 a4, .int .i64 a5, .bool a6, .int .u64 a7, .int .i64 a8, .bool b0, .int .i64 b1, .bool b2, .int .u64 b3, .int .i64 b4, .int .i64 b5, .bool b6, .int .u64 b7, .int .i64 b8] 44)
    refine hK.out _ _ ⟨BA.cell 0, BA.cell 1, BA.cell 2, BA.cell 3, BA.cell 4, BA.cell 5, BA.cell 6, BA.cell 7, BA.cell 8, BB.cell 0, BB.cell 1, BB.cell 2, BB.cell 3, BB.cell 4, BB.cell 5, BB.cell 6, BB.cell 7, BB.cell 8, BN.cell 0, BN.cell 1, BN.cell 2, BN.cell 3⟩ (fun hHeld => ?_)
    clear hK K
    refine norm_ (a' := ?_) ?_ ?_
    rotate_left
    · show Act.put _ (some 21) _ = _
      simp only [Act.put, List.setIfInBounds_toArray, List.set_cons_zero, List.set_cons_succ]
      rfl
    refine one_ (i := 5) (N := some 22) #[true, true, true, true, true, true, true, false, true, false, false, false, false, false, false, false, false, false, false, false, false, false, false, false, false, false, false, false, false, false, false] rfl rfl (by kernel_rfl) (by decide) (fun K hK => ?_)
    refine goes_ Try.func29 (by kernel_rfl) rfl #[.slice (some ⟨w4.heap.size, 0, none⟩) 2 2] (by rfl) rfl rfl (by simp only [List.map_toArray, List.map_cons, List.map_nil] <;> rfl) ?_
    with_reducible refine (HM.out _ _ (SlI.lit2 (x := ⟨a0, ⟨a1, a2, a3, a4⟩, ⟨a5, a6, a7, a8⟩⟩) (y := ⟨b0, ⟨b1, b2, b3, b4⟩, ⟨b5, b6, b7, b8⟩⟩) BL BL.lt)).mono ?_
    rintro e w5 ⟨rfl, hb⟩
    refine ⟨_, rfl, ?_⟩
    have BA := BA.call hb
    have BB := BB.call hb
    have BN := BN.call hb
    have HB := bl_trans HB hb
    refine hK.out _ _ ⟨BA.cell 0, BA.cell 1, BA.cell 2, BA.cell 3, BA.cell 4, BA.cell 5, BA.cell 6, BA.cell 7, BA.cell 8, BB.cell 0, BB.cell 1, BB.cell 2, BB.cell 3, BB.cell 4, BB.cell 5, BB.cell 6, BB.cell 7, BB.cell 8, BN.cell 0, BN.cell 1, BN.cell 2, BN.cell 3⟩ (fun hHeld => ?_)
    clear hK K hb
    refine norm_ (a' := ?_) ?_ ?_
    rotate_left
    · show Act.put _ (some 22) _ = _
      simp only [Act.put, List.setIfInBounds_toArray, List.set_cons_zero, List.set_cons_succ]
      rfl
    refine one_ (i := 7) (N := some 24) #[true, true, true, true, true, true, true, true, true, false, false, false, false, false, false, false, false, false, false, false, false, false, false, false, false, false, false, false, false, false, false] rfl rfl (by kernel_rfl) (by decide) (fun K hK => ?_)
    refine goes_ Try.func34 (by kernel_rfl) rfl #[.agg #[.bool m0, .int .i64 m1, .bool m2, .int .u64 m3, .int .i64 m4, .int .i64 m5, .bool m6, .int .u64 m7, .int .i64 m8], .agg #[.int .i64 n0, .bool n1, .int .u64 n2, .int .i64 n3]] (by rfl) rfl rfl (by simp only [List.map_toArray, List.map_cons, List.map_nil] <;> rfl) ?_
    with_reducible refine (HP.out _).mono ?_
    rintro e w6 ⟨rfl, hb⟩
    refine ⟨_, rfl, ?_⟩
    have BA := BA.call hb
    have BB := BB.call hb
    have BN := BN.call hb
    have HB := bl_trans HB hb
    refine hK.out _ _ ⟨BA.cell 0, BA.cell 1, BA.cell 2, BA.cell 3, BA.cell 4, BA.cell 5, BA.cell 6, BA.cell 7, BA.cell 8, BB.cell 0, BB.cell 1, BB.cell 2, BB.cell 3, BB.cell 4, BB.cell 5, BB.cell 6, BB.cell 7, BB.cell 8, BN.cell 0, BN.cell 1, BN.cell 2, BN.cell 3⟩ (fun hHeld => ?_)
    clear hK K hb
    refine norm_ (a' := ?_) ?_ ?_
    rotate_left
    · show Act.put _ (some 24) _ = _
      simp only [Act.put, List.setIfInBounds_toArray, List.set_cons_zero, List.set_cons_succ]
      rfl
    refine pure_ (i := 9) (N := some 26) (v := ?_) (a' := ?_) #[true, true, true, true, true, true, true, true, true, true, false, false, false, false, false, false, false, false, false, false, false, false, false, false, false, false, false, false, false, false, false] rfl rfl (by kernel_rfl) (fun _ _ _ h => h) (Or.inl ⟨by rfl, ?_⟩) ?_ ?_
    rotate_left
    · intro w'
      go_simp
      with_reducible rfl
    rotate_left
    · simp only [Act.put, List.setIfInBounds_toArray, List.set_cons_zero, List.set_cons_succ]
      rfl
    refine pure_ (i := 10) (N := some 27) (v := ?_) (a' := ?_) #[true, true, true, true, true, true, true, true, true, true, true, false, false, false, false, false, false, false, false, false, false, false, false, false, false, false, false, false, false, false, false] rfl rfl (by kernel_rfl) (fun _ _ _ h => h) (Or.inl ⟨by rfl, ?_⟩) ?_ ?_
    rotate_left
    · intro w'
      go_simp
      with_reducible rfl
    rotate_left
    · simp only [Act.put, List.setIfInBounds_toArray, List.set_cons_zero, List.set_cons_succ]
      rfl
    refine pure_ (i := 11) (N := some 28) (v := ?_) (a' := ?_) #[true, true, true, true, true, true, true, true, true, true, true, true, false, false, false, false, false, false, false, false, false, false, false, false, false, false, false, false, false, false, false] rfl rfl (by kernel_rfl) (fun _ _ _ h => h) (Or.inl ⟨by rfl, ?_⟩) ?_ ?_
    rotate_left
    · intro w'
      go_simp
      with_reducible rfl
    rotate_left
    · simp only [Act.put, List.setIfInBounds_toArray, List.set_cons_zero, List.set_cons_succ]
      rfl
    refine pure_ (i := 12) (N := some 29) (v := ?_) (a' := ?_) #[true, true, true, true, true, true, true, true, true, true, true, true, true, false, false, false, false, false, false, false, false, false, false, false, false, false, false, false, false, false, false] rfl rfl (by kernel_rfl) (fun _ _ _ h => h) (Or.inl ⟨by rfl, ?_⟩) ?_ ?_
    rotate_left
    · intro w'
      go_simp
      with_reducible rfl
    rotate_left
    · simp only [Act.put, List.setIfInBounds_toArray, List.set_cons_zero, List.set_cons_succ]
      rfl
    refine pure_ (i := 13) (N := some 30) (v := ?_) (a' := ?_) #[true, true, true, true, true, true, true, true, true, true, true, true, true, true, false, false, false, false, false, false, false, false, false, false, false, false, false, false, false, false, false] rfl rfl (by kernel_rfl) (fun _ _ _ h => h) (Or.inl ⟨by rfl, ?_⟩) ?_ ?_
    rotate_left
    · intro w'
      go_simp
      with_reducible rfl
    rotate_left
    · simp only [Act.put, List.setIfInBounds_toArray, List.set_cons_zero, List.set_cons_succ]
      rfl
    refine pure_ (i := 14) (N := some 31) (v := ?_) (a' := ?_) #[true, true, true, true, true, true, true, true, true, true, true, true, true, true, true, false, false, false, false, false, false, false, false, false, false, false, false, false, false, false, false] rfl rfl (by kernel_rfl) (fun _ _ _ h => h) (Or.inl ⟨by rfl, ?_⟩) ?_ ?_
    rotate_left
    · intro w'
      go_simp
      with_reducible rfl
    rotate_left
    · simp only [Act.put, List.setIfInBounds_toArray, List.set_cons_zero, List.set_cons_succ]
      rfl
    refine pure_ (i := 15) (N := some 32) (v := ?_) (a' := ?_) #[true, true, true, true, true, true, true, true, true, true, true, true, true, true, true, true, false, false, false, false, false, false, false, false, false, false, false, false, false, false, false] rfl rfl (by kernel_rfl) (fun _ _ _ h => h) (Or.inl ⟨by rfl, ?_⟩) ?_ ?_
    rotate_left
    · intro w'
      go_simp
      with_reducible rfl
    rotate_left
    · simp only [Act.put, List.setIfInBounds_toArray, List.set_cons_zero, List.set_cons_succ]
      rfl
    refine pure_ (i := 16) (N := some 33) (v := ?_) (a' := ?_) #[true, true, true, true, true, true, true, true, true, true, true, true, true, true, true, true, true, false, false, false, false, false, false, false, false, false, false, false, false, false, false] rfl rfl (by kernel_rfl) (fun _ _ _ h => h) (Or.inl ⟨by rfl, ?_⟩) ?_ ?_
    rotate_left
    · intro w'
      go_simp
      with_reducible rfl
    rotate_left
    · simp only [Act.put, List.setIfInBounds_toArray, List.set_cons_zero, List.set_cons_succ]
      rfl
    refine pure_ (i := 17) (N := some 34) (v := ?_) (a' := ?_) #[true, true, true, true, true, true, true, true, true, true, true, true, true, true, true, true, true, true, false, false, false, false, false, false, false, false, false, false, false, false, false] rfl rfl (by kernel_rfl) (fun _ _ _ h => h) (Or.inl ⟨by rfl, ?_⟩) ?_ ?_
    rotate_left
    · intro w'
      go_simp
      with_reducible rfl
    rotate_left
    · simp only [Act.put, List.setIfInBounds_toArray, List.set_cons_zero, List.set_cons_succ]
      rfl
    refine pure_ (i := 18) (N := some 35) (v := undef) (a' := ?_) #[true, true, true, true, true, true, true, true, true, true, true, true, true, true, true, true, true, true, true, false, false, false, false, false, false, false, false, false, false, false, false] rfl rfl (by kernel_rfl) (fun _ _ _ h => h) (Or.inr ⟨by rfl, rfl⟩) ?_ ?_
    rotate_left
    · simp only [Act.put, List.setIfInBounds_toArray, List.set_cons_zero, List.set_cons_succ]
      rfl
    refine pure_ (i := 19) (N := some 36) (v := undef) (a' := ?_) #[true, true, true, true, true, true, true, true, true, true, true, true, true, true, true, true, true, true, true, true, false, false, false, false, false, false, false, false, false, false, false] rfl rfl (by kernel_rfl) (fun _ _ _ h => h) (Or.inr ⟨by rfl, rfl⟩) ?_ ?_
    rotate_left
    · simp only [Act.put, List.setIfInBounds_toArray, List.set_cons_zero, List.set_cons_succ]
      rfl
    refine pure_ (i := 20) (N := some 37) (v := ?_) (a' := ?_) #[true, true, true, true, true, true, true, true, true, true, true, true, true, true, true, true, true, true, true, true, true, false, false, false, false, false, false, false, false, false, false] rfl rfl (by kernel_rfl) (fun _ _ _ h => h) (Or.inl ⟨by rfl, ?_⟩) ?_ ?_
    rotate_left
    · intro w'
      go_simp
      with_reducible rfl
    rotate_left
    · simp only [Act.put, List.setIfInBounds_toArray, List.set_cons_zero, List.set_cons_succ]
      rfl
    refine pure_ (i := 21) (N := some 38) (v := ?_) (a' := ?_) #[true, true, true, true, true, true, true, true, true, true, true, true, true, true, true, true, true, true, true, true, true, true, false, false, false, false, false, false, false, false, false] rfl rfl (by kernel_rfl) (fun _ _ _ h => h) (Or.inl ⟨by rfl, ?_⟩) ?_ ?_
    rotate_left
    · intro w'
      go_simp
      with_reducible rfl
    rotate_left
    · simp only [Act.put, List.setIfInBounds_toArray, List.set_cons_zero, List.set_cons_succ]
      rfl
    refine take_ (i := 22) (N := some 39) (v := ?_) (a' := ?_) #[true, true, true, true, true, true, true, true, true, true, true, true, true, true, true, true, true, true, true, true, true, true, true, false, false, false, false, false, false, false, false] rfl rfl (by kernel_rfl) (fun _ _ _ h => h) (Or.inl ⟨by rfl, ?_⟩) hHeld ?_ ?_
    rotate_left
    · rintro w' ⟨s0_, s1_, s2_, s3_, s4_, s5_, s6_, s7_, s8_, s9_, s10_, s11_, s12_, s13_, s14_, s15_, s16_, s17_, s18_, s19_, s20_, s21_⟩
      go_simp
      with_reducible rfl
    rotate_left
    · simp only [Act.put, List.setIfInBounds_toArray, List.set_cons_zero, List.set_cons_succ]
      rfl
    refine take_ (i := 23) (N := some 40) (v := ?_) (a' := ?_) #[true, true, true, true, true, true, true, true, true, true, true, true, true, true, true, true, true, true, true, true, true, true, true, true, false, false, false, false, false, false, false] rfl rfl (by kernel_rfl) (fun _ _ _ h => h) (Or.inl ⟨by rfl, ?_⟩) hHeld ?_ ?_
    rotate_left
    · rintro w' ⟨s0_, s1_, s2_, s3_, s4_, s5_, s6_, s7_, s8_, s9_, s10_, s11_, s12_, s13_, s14_, s15_, s16_, s17_, s18_, s19_, s20_, s21_⟩
      go_simp
      with_reducible rfl
    rotate_left
    · simp only [Act.put, List.setIfInBounds_toArray, List.set_cons_zero, List.set_cons_succ]
      rfl
    refine take_ (i := 26) (N := some 43) (v := ?_) (a' := ?_) #[true, true, true, true, true, true, true, true, true, true, true, true, true, true, true, true, true, true, true, true, true, true, true, true, false, false, true, false, false, false, false] rfl rfl (by kernel_rfl) (fun _ _ _ h => h) (Or.inl ⟨by rfl, ?_⟩) hHeld ?_ ?_
    rotate_left
    · rintro w' ⟨s0_, s1_, s2_, s3_, s4_, s5_, s6_, s7_, s8_, s9_, s10_, s11_, s12_, s13_, s14_, s15_, s16_, s17_, s18_, s19_, s20_, s21_⟩
      go_simp
      with_reducible rfl
    rotate_left
    · simp only [Act.put, List.setIfInBounds_toArray, List.set_cons_zero, List.set_cons_succ]
      rfl
    refine one_ (i := 24) (N := some 41) #[true, true, true, true, true, true, true, true, true, true, true, true, true, true, true, true, true, true, true, true, true, true, true, true, true, false, true, false, false, false, false] rfl rfl (by kernel_rfl) (by decide) (fun K hK => ?_)
    refine value_ (v := ?_) (w1 := ?_) (by rfl) rfl ?_ ?_
    rotate_left 2
    · go_simp
      first | rfl | (constructor <;> rfl)
    have BL := Blk.new w6 44 #[.bool a0, .int .i64 a1, .bool a2, .int .u64 a3, .int .i64 a4, .int .i64 a5, .bool a6, .int .u64 a7, .int .i64 a8, .bool b0, .int .i64 b1, .bool b2, .int .u64 b3, .int .i64 b4, .int .i64 b5, .bool b6, .int .u64 b7, .int .i64 b8]
    have BA := BA.alloc (.cells #[.bool a0, .int .i64 a1, .bool a2, .int .u64 a3, .int .i64 a4, .int .i64 a5, .bool a6, .int .u64 a7, .int .i64 a8, .bool b0, .int .i64 b1, .bool b2, .int .u64 b3, .int .i64 b4, .int .i64 b5, .bool b6, .int .u64 b7, .int .i64 b8] 44)
    have BB := BB.alloc (.cells #[.bool a0, .int .i64 a1, .bool a2, .int .u64 a3, .int .i64 a4, .int .i64 a5, .bool a6, .int .u64 a7, .int .i64 a8, .bool b0, .int .i64 b1, .bool b2, .int .u64 b3, .int .i64 b4, .int .i64 b5, .bool b6, .int .u64 b7, .int .i64 b8] 44)
    have BN := BN.alloc (.cells #[.bool a0, .int .i64 a1, .bool a2, .int .u64 a3, .int .i64 a4, .int .i64 a5, .bool a6, .int .u64 a7, .int .i64 a8, .bool b0, .int .i64 b1, .bool b2, .int .u64 b3, .int .i64 b4, .int .i64 b5, .bool b6, .int .u64 b7, .int .i64 b8] 44)
    have HB := bl_alloc HB (.cells #[.bool a0, .int .i64 a1, .bool a2, .int .u64 a3, .int .i64 a4, .int .i64 a5, .bool a6, .int .u64 a7, .int .i64 a8, .bool b0, .int .i64 b1, .bool b2, .int .u64 b3, .int .i64 b4, .int .i64 b5, .bool b6, .int .u64 b7, .int .i64 b8] 44)
    refine hK.out _ _ ⟨BA.cell 0, BA.cell 1, BA.cell 2, BA.cell 3, BA.cell 4, BA.cell 5, BA.cell 6, BA.cell 7, BA.cell 8, BB.cell 0, BB.cell 1, BB.cell 2, BB.cell 3, BB.cell 4, BB.cell 5, BB.cell 6, BB.cell 7, BB.cell 8, BN.cell 0, BN.cell 1, BN.cell 2, BN.cell 3⟩ (fun hHeld => ?_)
    clear hK K
    refine norm_ (a' := ?_) ?_ ?_
    rotate_left
    · show Act.put _ (some 41) _ = _
      simp only [Act.put, List.setIfInBounds_toArray, List.set_cons_zero, List.set_cons_succ]
      rfl
    refine one_ (i := 25) (N := some 42) #[true, true, true, true, true, true, true, true, true, true, true, true, true, true, true, true, true, true, true, true, true, true, true, true, true, true, true, false, false, false, false] rfl rfl (by kernel_rfl) (by decide) (fun K hK => ?_)
    refine goes_ Try.func30 (by kernel_rfl) rfl #[.slice (some ⟨w6.heap.size, 0, none⟩) 2 2] (by rfl) rfl rfl (by simp only [List.map_toArray, List.map_cons, List.map_nil] <;> rfl) ?_
    with_reducible refine (HH.out _ _ (SlI.lit2 (x := ⟨a0, ⟨a1, a2, a3, a4⟩, ⟨a5, a6, a7, a8⟩⟩) (y := ⟨b0, ⟨b1, b2, b3, b4⟩, ⟨b5, b6, b7, b8⟩⟩) BL BL.lt)).mono ?_
    rintro e w7 ⟨rfl, hb⟩
    refine ⟨_, rfl, ?_⟩
    have BA := BA.call hb
    have BB := BB.call hb
    have BN := BN.call hb
    have HB := bl_trans HB hb
    refine hK.out _ _ ⟨BA.cell 0, BA.cell 1, BA.cell 2, BA.cell 3, BA.cell 4, BA.cell 5, BA.cell 6, BA.cell 7, BA.cell 8, BB.cell 0, BB.cell 1, BB.cell 2, BB.cell 3, BB.cell 4, BB.cell 5, BB.cell 6, BB.cell 7, BB.cell 8, BN.cell 0, BN.cell 1, BN.cell 2, BN.cell 3⟩ (fun hHeld => ?_)
    clear hK K hb
    refine norm_ (a' := ?_) ?_ ?_
    rotate_left
    · show Act.put _ (some 42) _ = _
      simp only [Act.put, List.setIfInBounds_toArray, List.set_cons_zero, List.set_cons_succ]
      rfl
    refine one_ (i := 27) (N := some 44) #[true, true, true, true, true, true, true, true, true, true, true, true, true, true, true, true, true, true, true, true, true, true, true, true, true, true, true, true, false, false, false] rfl rfl (by kernel_rfl) (by decide) (fun K hK => ?_)
    refine goes_ Try.func34 (by kernel_rfl) rfl #[.agg #[.bool h0, .int .i64 h1, .bool h2, .int .u64 h3, .int .i64 h4, .int .i64 h5, .bool h6, .int .u64 h7, .int .i64 h8], .agg #[.int .i64 n0, .bool n1, .int .u64 n2, .int .i64 n3]] (by rfl) rfl rfl (by simp only [List.map_toArray, List.map_cons, List.map_nil] <;> rfl) ?_
    with_reducible refine (HQ.out _).mono ?_
    rintro e w8 ⟨rfl, hb⟩
    refine ⟨_, rfl, ?_⟩
    have BA := BA.call hb
    have BB := BB.call hb
    have BN := BN.call hb
    have HB := bl_trans HB hb
    refine hK.out _ _ ⟨BA.cell 0, BA.cell 1, BA.cell 2, BA.cell 3, BA.cell 4, BA.cell 5, BA.cell 6, BA.cell 7, BA.cell 8, BB.cell 0, BB.cell 1, BB.cell 2, BB.cell 3, BB.cell 4, BB.cell 5, BB.cell 6, BB.cell 7, BB.cell 8, BN.cell 0, BN.cell 1, BN.cell 2, BN.cell 3⟩ (fun hHeld => ?_)
    clear hK K hb
    refine norm_ (a' := ?_) ?_ ?_
    rotate_left
    · show Act.put _ (some 44) _ = _
      simp only [Act.put, List.setIfInBounds_toArray, List.set_cons_zero, List.set_cons_succ]
      rfl
    refine pure_ (i := 28) (N := some 45) (v := ?_) (a' := ?_) #[true, true, true, true, true, true, true, true, true, true, true, true, true, true, true, true, true, true, true, true, true, true, true, true, true, true, true, true, true, false, false] rfl rfl (by kernel_rfl) (fun _ _ _ h => h) (Or.inl ⟨by rfl, ?_⟩) ?_ ?_
    rotate_left
    · intro w'
      go_simp
      with_reducible rfl
    rotate_left
    · simp only [Act.put, List.setIfInBounds_toArray, List.set_cons_zero, List.set_cons_succ]
      rfl
    refine pure_ (i := 29) (N := some 46) (v := ?_) (a' := ?_) #[true, true, true, true, true, true, true, true, true, true, true, true, true, true, true, true, true, true, true, true, true, true, true, true, true, true, true, true, true, true, false] rfl rfl (by kernel_rfl) (fun _ _ _ h => h) (Or.inl ⟨by rfl, ?_⟩) ?_ ?_
    rotate_left
    · intro w'
      go_simp
      with_reducible rfl
    rotate_left
    · simp only [Act.put, List.setIfInBounds_toArray, List.set_cons_zero, List.set_cons_succ]
      rfl
    refine pure_ (i := 30) (N := some 6) (v := ?_) (a' := ?_) #[true, true, true, true, true, true, true, true, true, true, true, true, true, true, true, true, true, true, true, true, true, true, true, true, true, true, true, true, true, true, true] rfl rfl (by kernel_rfl) (fun _ _ _ h => h) (Or.inl ⟨by rfl, ?_⟩) ?_ ?_
    rotate_left
    · intro w'
      go_simp
      with_reducible rfl
    rotate_left
    · simp only [Act.put, List.setIfInBounds_toArray, List.set_cons_zero, List.set_cons_succ]
      rfl
    refine done_ (by kernel_rfl) ?_
    go_wp2
    go_ret
    exact ⟨rfl, HB⟩
  · obtain rfl : q = true := g (.inl rfl)
    refine start_ (n := 31) (S := fun w' => w'.cell? ⟨w.heap.size, 0, none⟩ = some (.bool a0) ∧ w'.cell? ⟨w.heap.size, 1, none⟩ = some (.int .i64 a1) ∧ w'.cell? ⟨w.heap.size, 2, none⟩ = some (.bool a2) ∧ w'.cell? ⟨w.heap.size, 3, none⟩ = some (.int .u64 a3) ∧ w'.cell? ⟨w.heap.size, 4, none⟩ = some (.int .i64 a4) ∧ w'.cell? ⟨w.heap.size, 5, none⟩ = some (.int .i64 a5) ∧ w'.cell? ⟨w.heap.size, 6, none⟩ = some (.bool a6) ∧ w'.cell? ⟨w.heap.size, 7, none⟩ = some (.int .u64 a7) ∧ w'.cell? ⟨w.heap.size, 8, none⟩ = some (.int .i64 a8) ∧ w'.cell? ⟨(w.heap.size + 1), 0, none⟩ = some (.bool b0) ∧ w'.cell? ⟨(w.heap.size + 1), 1, none⟩ = some (.int .i64 b1) ∧ w'.cell? ⟨(w.heap.size + 1), 2, none⟩ = some (.bool b2) ∧ w'.cell? ⟨(w.heap.size + 1), 3, none⟩ = some (.int .u64 b3) ∧ w'.cell? ⟨(w.heap.size + 1), 4, none⟩ = some (.int .i64 b4) ∧ w'.cell? ⟨(w.heap.size + 1), 5, none⟩ = some (.int .i64 b5) ∧ w'.cell? ⟨(w.heap.size + 1), 6, none⟩ = some (.bool b6) ∧ w'.cell? ⟨(w.heap.size + 1), 7, none⟩ = some (.int .u64 b7) ∧ w'.cell? ⟨(w.heap.size + 1), 8, none⟩ = some (.int .i64 b8) ∧ w'.cell? ⟨(w.heap.size + 1 + 1), 0, none⟩ = some (.int .i64 n0) ∧ w'.cell? ⟨(w.heap.size + 1 + 1), 1, none⟩ = some (.bool n1) ∧ w'.cell? ⟨(w.heap.size + 1 + 1), 2, none⟩ = some (.int .u64 n2) ∧ w'.cell? ⟨(w.heap.size + 1 + 1), 3, none⟩ = some (.int .i64 n3)) (ds := []) #[false, false, false, false, false, false, false, false, false, false, false, false, false, false, false, false, false, false, false, false, false, false, false, false, false, false, false, false, false, false, false] (by kernel_rfl) rfl rfl ⟨BA.cell 0, BA.cell 1, BA.cell 2, BA.cell 3, BA.cell 4, BA.cell 5, BA.cell 6, BA.cell 7, BA.cell 8, BB.cell 0, BB.cell 1, BB.cell 2, BB.cell 3, BB.cell 4, BB.cell 5, BB.cell 6, BB.cell 7, BB.cell 8, BN.cell 0, BN.cell 1, BN.cell 2, BN.cell 3⟩ (fun hHeld => ?_)
    generalize w3.drew = w4 at BA BB BN HB hHeld ⊢
    refine pure_ (i := 0) (N := some 17) (v := ?_) (a' := ?_) #[true, false, false, false, false, false, false, false, false, false, false, false, false, false, false, false, false, false, false, false, false, false, false, false, false, false, false, false, false, false, false] rfl rfl (by kernel_rfl) (fun _ _ _ h => h) (Or.inl ⟨by rfl, ?_⟩) ?_ ?_
    rotate_left
    · intro w'
      go_simp
      with_reducible rfl
    rotate_left
    · simp only [Act.put, List.setIfInBounds_toArray, List.set_cons_zero, List.set_cons_succ]
      rfl
    refine pure_ (i := 1) (N := some 18) (v := ?_) (a' := ?_) #[true, true, false, false, false, false, false, false, false, false, false, false, false, false, false, false, false, false, false, false, false, false, false, false, false, false, false, false, false, false, false] rfl rfl (by kernel_rfl) (fun _ _ _ h => h) (Or.inl ⟨by rfl, ?_⟩) ?_ ?_
    rotate_left
    · intro w'
      go_simp
      with_reducible rfl
    rotate_left
    · simp only [Act.put, List.setIfInBounds_toArray, List.set_cons_zero, List.set_cons_succ]
      rfl
    refine take_ (i := 2) (N := some 19) (v := ?_) (a' := ?_) #[true, true, true, false, false, false, false, false, false, false, false, false, false, false, false, false, false, false, false, false, false, false, false, false, false, false, false, false, false, false, false] rfl rfl (by kernel_rfl) (fun _ _ _ h => h) (Or.inl ⟨by rfl, ?_⟩) hHeld ?_ ?_
    rotate_left
    · rintro w' ⟨s0_, s1_, s2_, s3_, s4_, s5_, s6_, s7_, s8_, s9_, s10_, s11_, s12_, s13_, s14_, s15_, s16_, s17_, s18_, s19_, s20_, s21_⟩
      go_simp
      with_reducible rfl
    rotate_left
    · simp only [Act.put, List.setIfInBounds_toArray, List.set_cons_zero, List.set_cons_succ]
      rfl
    refine take_ (i := 3) (N := some 20) (v := ?_) (a' := ?_) #[true, true, true, true, false, false, false, false, false, false, false, false, false, false, false, false, false, false, false, false, false, false, false, false, false, false, false, false, false, false, false] rfl rfl (by kernel_rfl) (fun _ _ _ h => h) (Or.inl ⟨by rfl, ?_⟩) hHeld ?_ ?_
    rotate_left
    · rintro w' ⟨s0_, s1_, s2_, s3_, s4_, s5_, s6_, s7_, s8_, s9_, s10_, s11_, s12_, s13_, s14_, s15_, s16_, s17_, s18_, s19_, s20_, s21_⟩
      go_simp
      with_reducible rfl
    rotate_left
    · simp only [Act.put, List.setIfInBounds_toArray, List.set_cons_zero, List.set_cons_succ]
      rfl
    refine take_ (i := 6) (N := some 23) (v := ?_) (a' := ?_) #[true, true, true, true, false, false, true, false, false, false, false, false, false, false, false, false, false, false, false, false, false, false, false, false, false, false, false, false, false, false, false] rfl rfl (by kernel_rfl) (fun _ _ _ h => h) (Or.inl ⟨by rfl, ?_⟩) hHeld ?_ ?_
    rotate_left
    · rintro w' ⟨s0_, s1_, s2_, s3_, s4_, s5_, s6_, s7_, s8_, s9_, s10_, s11_, s12_, s13_, s14_, s15_, s16_, s17_, s18_, s19_, s20_, s21_⟩
      go_simp
      with_reducible rfl
    rotate_left
    · simp only [Act.put, List.setIfInBounds_toArray, List.set_cons_zero, List.set_cons_succ]
      rfl
    refine pure_ (i := 8) (N := some 25) (v := ?_) (a' := ?_) #[true, true, true, true, false, false, true, false, true, false, false, false, false, false, false, false, false, false, false, false, false, false, false, false, false, false, false, false, false, false, false] rfl rfl (by kernel_rfl) (fun _ _ _ h => h) (Or.inl ⟨by rfl, ?_⟩) ?_ ?_
    rotate_left
    · intro w'
      go_simp
      with_reducible rfl
    rotate_left
    · simp only [Act.put, List.setIfInBounds_toArray, List.set_cons_zero, List.set_cons_succ]
      rfl
    refine one_ (i := 4) (N := some 21) #[true, true, true, true, true, false, true, false, true, false, false, false, false, false, false, false, false, false, false, false, false, false, false, false, false, false, false, false, false, false, false] rfl rfl (by kernel_rfl) (by decide) (fun K hK => ?_)
    refine value_ (v := ?_) (w1 := ?_) (by rfl) rfl ?_ ?_
    rotate_left 2
    · go_simp
      first | rfl | (constructor <;> rfl)
    have BL := Blk.new w4 44 #[.bool a0, .int .i64 a1, .bool a2, .int .u64 a3, .int .i64 a4, .int .i64 a5, .bool a6, .int .u64 a7, .int .i64 a8, .bool b0, .int .i64 b1, .bool b2, .int .u64 b3, .int .i64 b4, .int .i64 b5, .bool b6, .int .u64 b7, .int .i64 b8]
    have BA := BA.alloc (.cells #[.bool a0, .int .i64 a1, .bool a2, .int .u64 a3, .int .i64 a4, .int .i64 a5, .bool a6, .int .u64 a7, .int .i64 a8, .bool b0, .int .i64 b1, .bool b2, .int .u64 b3, .int .i64 b4, .int .i64 b5, .bool b6, .int .u64 b7, .int .i64 b8] 44)
    have BB := BB.alloc (.cells #[.bool a0, .int .i64 a1, .bool a2, .int .u64 a3, .int .i64 a4, .int .i64 a5, .bool a6, .int .u64 a7, .int .i64 a8, .bool b0, .int .i64 b1, .bool b2, .int .u64 b3, .int .i64 b4, .int .i64 b5, .bool b6, .int .u64 b7, .int .i64 b8] 44)
    have BN := BN.alloc (.cells #[.bool a0, .int .i64 a1, .bool a2, .int .u64 a3, .int .i64 a4, .int .i64 a5, .bool a6, .int .u64 a7, .int .i64 a8, .bool b0, .int .i64 b1, .bool b2, .int .u64 b3, .int .i64 b4, .int .i64 b5, .bool b6, .int .u64 b7, .int .i64 b8] 44)
    have HB := bl_alloc HB (.cells #[.bool a0, .int .i64 a1, .bool a2, .int .u64 a3, .int .i64 a4, .int .i64 a5, .bool a6, .int .u64 a7, .int .i64 a8, .bool b0, .int .i64 b1, .bool b2, .int .u64 b3, .int .i64 b4, .int .i64 b5, .bool b6, .int .u64 b7, .int .i64 b8] 44)
    refine hK.out _ _ ⟨BA.cell 0, BA.cell 1, BA.cell 2, BA.cell 3, BA.cell 4, BA.cell 5, BA.cell 6, BA.cell 7, BA.cell 8, BB.cell 0, BB.cell 1, BB.cell 2, BB.cell 3, BB.cell 4, BB.cell 5, BB.cell 6, BB.cell 7, BB.cell 8, BN.cell 0, BN.cell 1, BN.cell 2, BN.cell 3⟩ (fun hHeld => ?_)
    clear hK K
    refine norm_ (a' := ?_) ?_ ?_
    rotate_left
    · show Act.put _ (some 21) _ = _
      simp only [Act.put, List.setIfInBounds_toArray, List.set_cons_zero, List.set_cons_succ]
      rfl
    refine one_ (i := 5) (N := some 22) #[true, true, true, true, true, true, true, false, true, false, false, false, false, false, false, false, false, false, false, false, false, false, false, false, false, false, false, false, false, false, false] rfl rfl (by kernel_rfl) (by decide) (fun K hK => ?_)
    refine goes_ Try.func29 (by kernel_rfl) rfl #[.slice (some ⟨w4.heap.size, 0, none⟩) 2 2] (by rfl) rfl rfl (by simp only [List.map_toArray, List.map_cons, List.map_nil] <;> rfl) ?_
    with_reducible refine (HM.out _ _ (SlI.lit2 (x := ⟨a0, ⟨a1, a2, a3, a4⟩, ⟨a5, a6, a7, a8⟩⟩) (y := ⟨b0, ⟨b1, b2, b3, b4⟩, ⟨b5, b6, b7, b8⟩⟩) BL BL.lt)).mono ?_
    rintro e w5 ⟨rfl, hb⟩
    refine ⟨_, rfl, ?_⟩
    have BA := BA.call hb
    have BB := BB.call hb
    have BN := BN.call hb
    have HB := bl_trans HB hb
    refine hK.out _ _ ⟨BA.cell 0, BA.cell 1, BA.cell 2, BA.cell 3, BA.cell 4, BA.cell 5, BA.cell 6, BA.cell 7, BA.cell 8, BB.cell 0, BB.cell 1, BB.cell 2, BB.cell 3, BB.cell 4, BB.cell 5, BB.cell 6, BB.cell 7, BB.cell 8, BN.cell 0, BN.cell 1, BN.cell 2, BN.cell 3⟩ (fun hHeld => ?_)
    clear hK K hb
    refine norm_ (a' := ?_) ?_ ?_
    rotate_left
    · show Act.put _ (some 22) _ = _
      simp only [Act.put, List.setIfInBounds_toArray, List.set_cons_zero, List.set_cons_succ]
      rfl
    refine one_ (i := 7) (N := some 24) #[true, true, true, true, true, true, true, true, true, false, false, false, false, false, false, false, false, false, false, false, false, false, false, false, false, false, false, false, false, false, false] rfl rfl (by kernel_rfl) (by decide) (fun K hK => ?_)
    refine goes_ Try.func34 (by kernel_rfl) rfl #[.agg #[.bool m0, .int .i64 m1, .bool m2, .int .u64 m3, .int .i64 m4, .int .i64 m5, .bool m6, .int .u64 m7, .int .i64 m8], .agg #[.int .i64 n0, .bool n1, .int .u64 n2, .int .i64 n3]] (by rfl) rfl rfl (by simp only [List.map_toArray, List.map_cons, List.map_nil] <;> rfl) ?_
    with_reducible refine (HP.out _).mono ?_
    rintro e w6 ⟨rfl, hb⟩
    refine ⟨_, rfl, ?_⟩
    have BA := BA.call hb
    have BB := BB.call hb
    have BN := BN.call hb
    have HB := bl_trans HB hb
    refine hK.out _ _ ⟨BA.cell 0, BA.cell 1, BA.cell 2, BA.cell 3, BA.cell 4, BA.cell 5, BA.cell 6, BA.cell 7, BA.cell 8, BB.cell 0, BB.cell 1, BB.cell 2, BB.cell 3, BB.cell 4, BB.cell 5, BB.cell 6, BB.cell 7, BB.cell 8, BN.cell 0, BN.cell 1, BN.cell 2, BN.cell 3⟩ (fun hHeld => ?_)
    clear hK K hb
    refine norm_ (a' := ?_) ?_ ?_
    rotate_left
    · show Act.put _ (some 24) _ = _
      simp only [Act.put, List.setIfInBounds_toArray, List.set_cons_zero, List.set_cons_succ]
      rfl
    refine pure_ (i := 9) (N := some 26) (v := ?_) (a' := ?_) #[true, true, true, true, true, true, true, true, true, true, false, false, false, false, false, false, false, false, false, false, false, false, false, false, false, false, false, false, false, false, false] rfl rfl (by kernel_rfl) (fun _ _ _ h => h) (Or.inl ⟨by rfl, ?_⟩) ?_ ?_
    rotate_left
    · intro w'
      go_simp
      with_reducible rfl
    rotate_left
    · simp only [Act.put, List.setIfInBounds_toArray, List.set_cons_zero, List.set_cons_succ]
      rfl
    refine pure_ (i := 10) (N := some 27) (v := ?_) (a' := ?_) #[true, true, true, true, true, true, true, true, true, true, true, false, false, false, false, false, false, false, false, false, false, false, false, false, false, false, false, false, false, false, false] rfl rfl (by kernel_rfl) (fun _ _ _ h => h) (Or.inl ⟨by rfl, ?_⟩) ?_ ?_
    rotate_left
    · intro w'
      go_simp
      with_reducible rfl
    rotate_left
    · simp only [Act.put, List.setIfInBounds_toArray, List.set_cons_zero, List.set_cons_succ]
      rfl
    refine pure_ (i := 11) (N := some 28) (v := ?_) (a' := ?_) #[true, true, true, true, true, true, true, true, true, true, true, true, false, false, false, false, false, false, false, false, false, false, false, false, false, false, false, false, false, false, false] rfl rfl (by kernel_rfl) (fun _ _ _ h => h) (Or.inl ⟨by rfl, ?_⟩) ?_ ?_
    rotate_left
    · intro w'
      go_simp
      with_reducible rfl
    rotate_left
    · simp only [Act.put, List.setIfInBounds_toArray, List.set_cons_zero, List.set_cons_succ]
      rfl
    refine pure_ (i := 12) (N := some 29) (v := ?_) (a' := ?_) #[true, true, true, true, true, true, true, true, true, true, true, true, true, false, false, false, false, false, false, false, false, false, false, false, false, false, false, false, false, false, false] rfl rfl (by kernel_rfl) (fun _ _ _ h => h) (Or.inl ⟨by rfl, ?_⟩) ?_ ?_
    rotate_left
    · intro w'
      go_simp
      with_reducible rfl
    rotate_left
    · simp only [Act.put, List.setIfInBounds_toArray, List.set_cons_zero, List.set_cons_succ]
      rfl
    refine pure_ (i := 13) (N := some 30) (v := ?_) (a' := ?_) #[true, true, true, true, true, true, true, true, true, true, true, true, true, true, false, false, false, false, false, false, false, false, false, false, false, false, false, false, false, false, false] rfl rfl (by kernel_rfl) (fun _ _ _ h => h) (Or.inl ⟨by rfl, ?_⟩) ?_ ?_
    rotate_left
    · intro w'
      go_simp
      with_reducible rfl
    rotate_left
    · simp only [Act.put, List.setIfInBounds_toArray, List.set_cons_zero, List.set_cons_succ]
      rfl
    refine pure_ (i := 14) (N := some 31) (v := ?_) (a' := ?_) #[true, true, true, true, true, true, true, true, true, true, true, true, true, true, true, false, false, false, false, false, false, false, false, false, false, false, false, false, false, false, false] rfl rfl (by kernel_rfl) (fun _ _ _ h => h) (Or.inl ⟨by rfl, ?_⟩) ?_ ?_
    rotate_left
    · intro w'
      go_simp
      with_reducible rfl
    rotate_left
    · simp only [Act.put, List.setIfInBounds_toArray, List.set_cons_zero, List.set_cons_succ]
      rfl
    refine pure_ (i := 15) (N := some 32) (v := ?_) (a' := ?_) #[true, true, true, true, true, true, true, true, true, true, true, true, true, true, true, true, false, false, false, false, false, false, false, false, false, false, false, false, false, false, false] rfl rfl (by kernel_rfl) (fun _ _ _ h => h) (Or.inl ⟨by rfl, ?_⟩) ?_ ?_
    rotate_left
    · intro w'
      go_simp
      with_reducible rfl
    rotate_left
    · simp only [Act.put, List.setIfInBounds_toArray, List.set_cons_zero, List.set_cons_succ]
      rfl
    refine pure_ (i := 16) (N := some 33) (v := ?_) (a' := ?_) #[true, true, true, true, true, true, true, true, true, true, true, true, true, true, true, true, true, false, false, false, false, false, false, false, false, false, false, false, false, false, false] rfl rfl (by kernel_rfl) (fun _ _ _ h => h) (Or.inl ⟨by rfl, ?_⟩) ?_ ?_
    rotate_left
    · intro w'
      go_simp
      with_reducible rfl
    rotate_left
    · simp only [Act.put, List.setIfInBounds_toArray, List.set_cons_zero, List.set_cons_succ]
      rfl
    refine pure_ (i := 17) (N := some 34) (v := ?_) (a' := ?_) #[true, true, true, true, true, true, true, true, true, true, true, true, true, true, true, true, true, true, false, false, false, false, false, false, false, false, false, false, false, false, false] rfl rfl (by kernel_rfl) (fun _ _ _ h => h) (Or.inl ⟨by rfl, ?_⟩) ?_ ?_
    rotate_left
    · intro w'
      go_simp
      with_reducible rfl
    rotate_left
    · simp only [Act.put, List.setIfInBounds_toArray, List.set_cons_zero, List.set_cons_succ]
      rfl
    refine pure_ (i := 18) (N := some 35) (v := undef) (a' := ?_) #[true, true, true, true, true, true, true, true, true, true, true, true, true, true, true, true, true, true, true, false, false, false, false, false, false, false, false, false, false, false, false] rfl rfl (by kernel_rfl) (fun _ _ _ h => h) (Or.inr ⟨by rfl, rfl⟩) ?_ ?_
    rotate_left
    · simp only [Act.put, List.setIfInBounds_toArray, List.set_cons_zero, List.set_cons_succ]
      rfl
    refine pure_ (i := 19) (N := some 36) (v := undef) (a' := ?_) #[true, true, true, true, true, true, true, true, true, true, true, true, true, true, true, true, true, true, true, true, false, false, false, false, false, false, false, false, false, false, false] rfl rfl (by kernel_rfl) (fun _ _ _ h => h) (Or.inr ⟨by rfl, rfl⟩) ?_ ?_
    rotate_left
    · simp only [Act.put, List.setIfInBounds_toArray, List.set_cons_zero, List.set_cons_succ]
      rfl
    refine pure_ (i := 20) (N := some 37) (v := ?_) (a' := ?_) #[true, true, true, true, true, true, true, true, true, true, true, true, true, true, true, true, true, true, true, true, true, false, false, false, false, false, false, false, false, false, false] rfl rfl (by kernel_rfl) (fun _ _ _ h => h) (Or.inl ⟨by rfl, ?_⟩) ?_ ?_
    rotate_left
    · intro w'
      go_simp
      with_reducible rfl
    rotate_left
    · simp only [Act.put, List.setIfInBounds_toArray, List.set_cons_zero, List.set_cons_succ]
      rfl
    refine pure_ (i := 21) (N := some 38) (v := ?_) (a' := ?_) #[true, true, true, true, true, true, true, true, true, true, true, true, true, true, true, true, true, true, true, true, true, true, false, false, false, false, false, false, false, false, false] rfl rfl (by kernel_rfl) (fun _ _ _ h => h) (Or.inl ⟨by rfl, ?_⟩) ?_ ?_
    rotate_left
    · intro w'
      go_simp
      with_reducible rfl
    rotate_left
    · simp only [Act.put, List.setIfInBounds_toArray, List.set_cons_zero, List.set_cons_succ]
      rfl
    refine take_ (i := 22) (N := some 39) (v := ?_) (a' := ?_) #[true, true, true, true, true, true, true, true, true, true, true, true, true, true, true, true, true, true, true, true, true, true, true, false, false, false, false, false, false, false, false] rfl rfl (by kernel_rfl) (fun _ _ _ h => h) (Or.inl ⟨by rfl, ?_⟩) hHeld ?_ ?_
    rotate_left
    · rintro w' ⟨s0_, s1_, s2_, s3_, s4_, s5_, s6_, s7_, s8_, s9_, s10_, s11_, s12_, s13_, s14_, s15_, s16_, s17_, s18_, s19_, s20_, s21_⟩
      go_simp
      with_reducible rfl
    rotate_left
    · simp only [Act.put, List.setIfInBounds_toArray, List.set_cons_zero, List.set_cons_succ]
      rfl
    refine take_ (i := 23) (N := some 40) (v := ?_) (a' := ?_) #[true, true, true, true, true, true, true, true, true, true, true, true, true, true, true, true, true, true, true, true, true, true, true, true, false, false, false, false, false, false, false] rfl rfl (by kernel_rfl) (fun _ _ _ h => h) (Or.inl ⟨by rfl, ?_⟩) hHeld ?_ ?_
    rotate_left
    · rintro w' ⟨s0_, s1_, s2_, s3_, s4_, s5_, s6_, s7_, s8_, s9_, s10_, s11_, s12_, s13_, s14_, s15_, s16_, s17_, s18_, s19_, s20_, s21_⟩
      go_simp
      with_reducible rfl
    rotate_left
    · simp only [Act.put, List.setIfInBounds_toArray, List.set_cons_zero, List.set_cons_succ]
      rfl
    refine take_ (i := 26) (N := some 43) (v := ?_) (a' := ?_) #[true, true, true, true, true, true, true, true, true, true, true, true, true, true, true, true, true, true, true, true, true, true, true, true, false, false, true, false, false, false, false] rfl rfl (by kernel_rfl) (fun _ _ _ h => h) (Or.inl ⟨by rfl, ?_⟩) hHeld ?_ ?_
    rotate_left
    · rintro w' ⟨s0_, s1_, s2_, s3_, s4_, s5_, s6_, s7_, s8_, s9_, s10_, s11_, s12_, s13_, s14_, s15_, s16_, s17_, s18_, s19_, s20_, s21_⟩
      go_simp
      with_reducible rfl
    rotate_left
    · simp only [Act.put, List.setIfInBounds_toArray, List.set_cons_zero, List.set_cons_succ]
      rfl
    refine one_ (i := 24) (N := some 41) #[true, true, true, true, true, true, true, true, true, true, true, true, true, true, true, true, true, true, true, true, true, true, true, true, true, false, true, false, false, false, false] rfl rfl (by kernel_rfl) (by decide) (fun K hK => ?_)
    refine value_ (v := ?_) (w1 := ?_) (by rfl) rfl ?_ ?_
    rotate_left 2
    · go_simp
      first | rfl | (constructor <;> rfl)
    have BL := Blk.new w6 44 #[.bool a0, .int .i64 a1, .bool a2, .int .u64 a3, .int .i64 a4, .int .i64 a5, .bool a6, .int .u64 a7, .int .i64 a8, .bool b0, .int .i64 b1, .bool b2, .int .u64 b3, .int .i64 b4, .int .i64 b5, .bool b6, .int .u64 b7, .int .i64 b8]
    have BA := BA.alloc (.cells #[.bool a0, .int .i64 a1, .bool a2, .int .u64 a3, .int .i64 a4, .int .i64 a5, .bool a6, .int .u64 a7, .int .i64 a8, .bool b0, .int .i64 b1, .bool b2, .int .u64 b3, .int .i64 b4, .int .i64 b5, .bool b6, .int .u64 b7, .int .i64 b8] 44)
    have BB := BB.alloc (.cells #[.bool a0, .int .i64 a1, .bool a2, .int .u64 a3, .int .i64 a4, .int .i64 a5, .bool a6, .int .u64 a7, .int .i64 a8, .bool b0, .int .i64 b1, .bool b2, .int .u64 b3, .int .i64 b4, .int .i64 b5, .bool b6, .int .u64 b7, .int .i64 b8] 44)
    have BN := BN.alloc (.cells #[.bool a0, .int .i64 a1, .bool a2, .int .u64 a3, .int .i64 a4, .int .i64 a5, .bool a6, .int .u64 a7, .int .i64 a8, .bool b0, .int .i64 b1, .bool b2, .int .u64 b3, .int .i64 b4, .int .i64 b5, .bool b6, .int .u64 b7, .int .i64 b8] 44)
    have HB := bl_alloc HB (.cells #[.bool a0, .int .i64 a1, .bool a2, .int .u64 a3, .int .i64 a4, .int .i64 a5, .bool a6, .int .u64 a7, .int .i64 a8, .bool b0, .int .i64 b1, .bool b2, .int .u64 b3, .int .i64 b4, .int .i64 b5, .bool b6, .int .u64 b7, .int .i64 b8] 44)
    refine hK.out _ _ ⟨BA.cell 0, BA.cell 1, BA.cell 2, BA.cell 3, BA.cell 4, BA.cell 5, BA.cell 6, BA.cell 7, BA.cell 8, BB.cell 0, BB.cell 1, BB.cell 2, BB.cell 3, BB.cell 4, BB.cell 5, BB.cell 6, BB.cell 7, BB.cell 8, BN.cell 0, BN.cell 1, BN.cell 2, BN.cell 3⟩ (fun hHeld => ?_)
    clear hK K
    refine norm_ (a' := ?_) ?_ ?_
    rotate_left
    · show Act.put _ (some 41) _ = _
      simp only [Act.put, List.setIfInBounds_toArray, List.set_cons_zero, List.set_cons_succ]
      rfl
    refine one_ (i := 25) (N := some 42) #[true, true, true, true, true, true, true, true, true, true, true, true, true, true, true, true, true, true, true, true, true, true, true, true, true, true, true, false, false, false, false] rfl rfl (by kernel_rfl) (by decide) (fun K hK => ?_)
    refine goes_ Try.func30 (by kernel_rfl) rfl #[.slice (some ⟨w6.heap.size, 0, none⟩) 2 2] (by rfl) rfl rfl (by simp only [List.map_toArray, List.map_cons, List.map_nil] <;> rfl) ?_
    with_reducible refine (HH.out _ _ (SlI.lit2 (x := ⟨a0, ⟨a1, a2, a3, a4⟩, ⟨a5, a6, a7, a8⟩⟩) (y := ⟨b0, ⟨b1, b2, b3, b4⟩, ⟨b5, b6, b7, b8⟩⟩) BL BL.lt)).mono ?_
    rintro e w7 ⟨rfl, hb⟩
    refine ⟨_, rfl, ?_⟩
    have BA := BA.call hb
    have BB := BB.call hb
    have BN := BN.call hb
    have HB := bl_trans HB hb
    refine hK.out _ _ ⟨BA.cell 0, BA.cell 1, BA.cell 2, BA.cell 3, BA.cell 4, BA.cell 5, BA.cell 6, BA.cell 7, BA.cell 8, BB.cell 0, BB.cell 1, BB.cell 2, BB.cell 3, BB.cell 4, BB.cell 5, BB.cell 6, BB.cell 7, BB.cell 8, BN.cell 0, BN.cell 1, BN.cell 2, BN.cell 3⟩ (fun hHeld => ?_)
    clear hK K hb
    refine norm_ (a' := ?_) ?_ ?_
    rotate_left
    · show Act.put _ (some 42) _ = _
      simp only [Act.put, List.setIfInBounds_toArray, List.set_cons_zero, List.set_cons_succ]
      rfl
    refine one_ (i := 27) (N := some 44) #[true, true, true, true, true, true, true, true, true, true, true, true, true, true, true, true, true, true, true, true, true, true, true, true, true, true, true, true, false, false, false] rfl rfl (by kernel_rfl) (by decide) (fun K hK => ?_)
    refine goes_ Try.func34 (by kernel_rfl) rfl #[.agg #[.bool h0, .int .i64 h1, .bool h2, .int .u64 h3, .int .i64 h4, .int .i64 h5, .bool h6, .int .u64 h7, .int .i64 h8], .agg #[.int .i64 n0, .bool n1, .int .u64 n2, .int .i64 n3]] (by rfl) rfl rfl (by simp only [List.map_toArray, List.map_cons, List.map_nil] <;> rfl) ?_
    with_reducible refine (HQ.out _).mono ?_
    rintro e w8 ⟨rfl, hb⟩
    refine ⟨_, rfl, ?_⟩
    have BA := BA.call hb
    have BB := BB.call hb
    have BN := BN.call hb
    have HB := bl_trans HB hb
    refine hK.out _ _ ⟨BA.cell 0, BA.cell 1, BA.cell 2, BA.cell 3, BA.cell 4, BA.cell 5, BA.cell 6, BA.cell 7, BA.cell 8, BB.cell 0, BB.cell 1, BB.cell 2, BB.cell 3, BB.cell 4, BB.cell 5, BB.cell 6, BB.cell 7, BB.cell 8, BN.cell 0, BN.cell 1, BN.cell 2, BN.cell 3⟩ (fun hHeld => ?_)
    clear hK K hb
    refine norm_ (a' := ?_) ?_ ?_
    rotate_left
    · show Act.put _ (some 44) _ = _
      simp only [Act.put, List.setIfInBounds_toArray, List.set_cons_zero, List.set_cons_succ]
      rfl
    refine pure_ (i := 28) (N := some 45) (v := ?_) (a' := ?_) #[true, true, true, true, true, true, true, true, true, true, true, true, true, true, true, true, true, true, true, true, true, true, true, true, true, true, true, true, true, false, false] rfl rfl (by kernel_rfl) (fun _ _ _ h => h) (Or.inl ⟨by rfl, ?_⟩) ?_ ?_
    rotate_left
    · intro w'
      go_simp
      with_reducible rfl
    rotate_left
    · simp only [Act.put, List.setIfInBounds_toArray, List.set_cons_zero, List.set_cons_succ]
      rfl
    refine pure_ (i := 29) (N := some 46) (v := ?_) (a' := ?_) #[true, true, true, true, true, true, true, true, true, true, true, true, true, true, true, true, true, true, true, true, true, true, true, true, true, true, true, true, true, true, false] rfl rfl (by kernel_rfl) (fun _ _ _ h => h) (Or.inl ⟨by rfl, ?_⟩) ?_ ?_
    rotate_left
    · intro w'
      go_simp
      with_reducible rfl
    rotate_left
    · simp only [Act.put, List.setIfInBounds_toArray, List.set_cons_zero, List.set_cons_succ]
      rfl
    refine pure_ (i := 30) (N := some 6) (v := ?_) (a' := ?_) #[true, true, true, true, true, true, true, true, true, true, true, true, true, true, true, true, true, true, true, true, true, true, true, true, true, true, true, true, true, true, true] rfl rfl (by kernel_rfl) (fun _ _ _ h => h) (Or.inl ⟨by rfl, ?_⟩) ?_ ?_
    rotate_left
    · intro w'
      go_simp
      with_reducible rfl
    rotate_left
    · simp only [Act.put, List.setIfInBounds_toArray, List.set_cons_zero, List.set_cons_succ]
      rfl
    refine done_ (by kernel_rfl) ?_
    go_wp2
    go_ret
    exact ⟨rfl, HB⟩
end Go.Proofs.Ytakajahogjeiaaa.Wk
