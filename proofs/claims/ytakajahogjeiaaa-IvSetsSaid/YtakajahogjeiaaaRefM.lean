/- Walks: the reference's Two and Both of intervals. -/
import Derived.Test.YtakajahogjeiaaaRefJ
import Derived.Test.YtakajahogjeiaaaRefL
import Derived.Test.YtakajahogjeiaaaIvPl5
namespace Go.Proofs.Ytakajahogjeiaaa.Wk
open Go.RowKit Go.Proofs.Pl Go.Proofs.YtakajahogjeiaaaW.PrintLast
set_option linter.unusedSimpArgs false
set_option linter.unusedVariables false

theorem SlN.lit2 {w : World} {g B : Nat} {T : TypeId} {x y : Num} (h : Blk w g T #[.int .i64 x.k, .bool x.n, .int .u64 x.m, .int .i64 x.e, .int .i64 y.k, .bool y.n, .int .u64 y.m, .int .i64 y.e]) (hB : g < B) :
    SlN w B (some ⟨g, 0, none⟩) 2 [x, y] := by
  refine ⟨rfl, fun _ => ⟨g, 0, rfl, hB, fun i z hz => ?_⟩⟩
  match i, hz with
  | 0, hz =>
    simp only [List.getElem?_cons_zero, Option.some.injEq] at hz
    subst hz
    exact ⟨h.cell 0, h.cell 1, h.cell 2, h.cell 3⟩
  | 1, hz =>
    simp only [List.getElem?_cons_succ, List.getElem?_cons_zero, Option.some.injEq] at hz
    subst hz
    exact ⟨h.cell 4, h.cell 5, h.cell 6, h.cell 7⟩
  | i + 2, hz => simp at hz

set_option maxRecDepth 100000 in
set_option maxHeartbeats 8000000 in
theorem r8two_calls (a0 : Bool) (a1 : Int) (a2 : Bool) (a3 a4 a5 : Int) (a6 : Bool) (a7 a8 : Int) (b0 : Bool) (b1 : Int) (b2 : Bool) (b3 b4 b5 : Int) (b6 : Bool) (b7 b8 : Int) (w : World) :
    Calls Try.prog 69 #[.agg #[.bool a0, .int .i64 a1, .bool a2, .int .u64 a3, .int .i64 a4, .int .i64 a5, .bool a6, .int .u64 a7, .int .i64 a8], .agg #[.bool b0, .int .i64 b1, .bool b2, .int .u64 b3, .int .i64 b4, .int .i64 b5, .bool b6, .int .u64 b7, .int .i64 b8]] w fun e w' => e = .returned (.agg #[.bool (twoI ⟨a0, ⟨a1, a2, a3, a4⟩, ⟨a5, a6, a7, a8⟩⟩ ⟨b0, ⟨b1, b2, b3, b4⟩, ⟨b5, b6, b7, b8⟩⟩).emp, .int .i64 ((twoI ⟨a0, ⟨a1, a2, a3, a4⟩, ⟨a5, a6, a7, a8⟩⟩ ⟨b0, ⟨b1, b2, b3, b4⟩, ⟨b5, b6, b7, b8⟩⟩).lo).k, .bool ((twoI ⟨a0, ⟨a1, a2, a3, a4⟩, ⟨a5, a6, a7, a8⟩⟩ ⟨b0, ⟨b1, b2, b3, b4⟩, ⟨b5, b6, b7, b8⟩⟩).lo).n, .int .u64 ((twoI ⟨a0, ⟨a1, a2, a3, a4⟩, ⟨a5, a6, a7, a8⟩⟩ ⟨b0, ⟨b1, b2, b3, b4⟩, ⟨b5, b6, b7, b8⟩⟩).lo).m, .int .i64 ((twoI ⟨a0, ⟨a1, a2, a3, a4⟩, ⟨a5, a6, a7, a8⟩⟩ ⟨b0, ⟨b1, b2, b3, b4⟩, ⟨b5, b6, b7, b8⟩⟩).lo).e, .int .i64 ((twoI ⟨a0, ⟨a1, a2, a3, a4⟩, ⟨a5, a6, a7, a8⟩⟩ ⟨b0, ⟨b1, b2, b3, b4⟩, ⟨b5, b6, b7, b8⟩⟩).hi).k, .bool ((twoI ⟨a0, ⟨a1, a2, a3, a4⟩, ⟨a5, a6, a7, a8⟩⟩ ⟨b0, ⟨b1, b2, b3, b4⟩, ⟨b5, b6, b7, b8⟩⟩).hi).n, .int .u64 ((twoI ⟨a0, ⟨a1, a2, a3, a4⟩, ⟨a5, a6, a7, a8⟩⟩ ⟨b0, ⟨b1, b2, b3, b4⟩, ⟨b5, b6, b7, b8⟩⟩).hi).m, .int .i64 ((twoI ⟨a0, ⟨a1, a2, a3, a4⟩, ⟨a5, a6, a7, a8⟩⟩ ⟨b0, ⟨b1, b2, b3, b4⟩, ⟨b5, b6, b7, b8⟩⟩).hi).e]) ∧ Below w.heap.size w w' := by
  unfold twoI
  have HF := Lib.hid (fun W => r8fair_calls a0 a1 a2 a3 a4 a5 a6 a7 a8 W)
  have HG := Lib.hid (fun W => r8fair_calls b0 b1 b2 b3 b4 b5 b6 b7 b8 W)
  generalize fairI ⟨a0, ⟨a1, a2, a3, a4⟩, ⟨a5, a6, a7, a8⟩⟩ = c at HF ⊢
  generalize fairI ⟨b0, ⟨b1, b2, b3, b4⟩, ⟨b5, b6, b7, b8⟩⟩ = d at HG ⊢
  obtain ⟨c0, ⟨c1, c2, c3, c4⟩, ⟨c5, c6, c7, c8⟩⟩ := c
  obtain ⟨d0, ⟨d1, d2, d3, d4⟩, ⟨d5, d6, d7, d8⟩⟩ := d
  dsimp only at HF HG ⊢
  have HMo := Lib.hid (fun A W (h : SlN W W.heap.size A 2 [⟨c1, c2, c3, c4⟩, ⟨d1, d2, d3, d4⟩]) => rmostN_calls A 2 2 _ W h (by omega))
  have HLe := Lib.hid (fun A W (h : SlN W W.heap.size A 2 [⟨c5, c6, c7, c8⟩, ⟨d5, d6, d7, d8⟩]) => rleastN_calls A 2 2 _ W h (by omega))
  generalize mostN [⟨c1, c2, c3, c4⟩, ⟨d1, d2, d3, d4⟩] = m at HMo ⊢
  generalize leastN [⟨c5, c6, c7, c8⟩, ⟨d5, d6, d7, d8⟩] = n at HLe ⊢
  obtain ⟨m0, m1, m2, m3⟩ := m
  obtain ⟨n0, n1, n2, n3⟩ := n
  have HMk := Lib.hid (fun W => r8make_calls m0 m1 m2 m3 n0 n1 n2 n3 W)
  generalize makeI ⟨m0, m1, m2, m3⟩ ⟨n0, n1, n2, n3⟩ = r at HMk ⊢
  obtain ⟨r0, ⟨r1, r2, r3, r4⟩, ⟨r5, r6, r7, r8⟩⟩ := r
  dsimp only at HMo HLe HMk ⊢
  have BB := (Blk.new1 w (.cells #[.bool a0, .int .i64 a1, .bool a2, .int .u64 a3, .int .i64 a4, .int .i64 a5, .bool a6, .int .u64 a7, .int .i64 a8] 44) 44 #[.bool b0, .int .i64 b1, .bool b2, .int .u64 b3, .int .i64 b4, .int .i64 b5, .bool b6, .int .u64 b7, .int .i64 b8]).alloc (.cells #[.bool false, .int .i64 0, .bool false, .int .u64 0, .int .i64 0, .int .i64 0, .bool false, .int .u64 0, .int .i64 0] 44)
  have BR0 := (Blk.new2 w (.cells #[.bool a0, .int .i64 a1, .bool a2, .int .u64 a3, .int .i64 a4, .int .i64 a5, .bool a6, .int .u64 a7, .int .i64 a8] 44) (.cells #[.bool b0, .int .i64 b1, .bool b2, .int .u64 b3, .int .i64 b4, .int .i64 b5, .bool b6, .int .u64 b7, .int .i64 b8] 44) 44 #[.bool false, .int .i64 0, .bool false, .int .u64 0, .int .i64 0, .int .i64 0, .bool false, .int .u64 0, .int .i64 0])
  have BR : Blk _ (w.heap.size + 1 + 1) _ _ := BR0
  clear BR0
  have HB := bl_alloc (bl_alloc (bl_alloc (Below.refl w.heap.size w) (.cells #[.bool a0, .int .i64 a1, .bool a2, .int .u64 a3, .int .i64 a4, .int .i64 a5, .bool a6, .int .u64 a7, .int .i64 a8] 44)) (.cells #[.bool b0, .int .i64 b1, .bool b2, .int .u64 b3, .int .i64 b4, .int .i64 b5, .bool b6, .int .u64 b7, .int .i64 b8] 44)) (.cells #[.bool false, .int .i64 0, .bool false, .int .u64 0, .int .i64 0, .int .i64 0, .bool false, .int .u64 0, .int .i64 0] 44)
  go_enter Try.func69, Try.ntmps69
  go_wp2_with fail
  refine (HF.out _).mono ?_
  rintro e w1 ⟨rfl, hb⟩
  have BB := (BB.call hb).alloc (.cells #[.bool c0, .int .i64 c1, .bool c2, .int .u64 c3, .int .i64 c4, .int .i64 c5, .bool c6, .int .u64 c7, .int .i64 c8] 44)
  have BR := (BR.call hb).alloc (.cells #[.bool c0, .int .i64 c1, .bool c2, .int .u64 c3, .int .i64 c4, .int .i64 c5, .bool c6, .int .u64 c7, .int .i64 c8] 44)
  have HB := bl_alloc (bl_trans HB hb) (.cells #[.bool c0, .int .i64 c1, .bool c2, .int .u64 c3, .int .i64 c4, .int .i64 c5, .bool c6, .int .u64 c7, .int .i64 c8] 44)
  have BC := Blk.new w1 44 #[.bool c0, .int .i64 c1, .bool c2, .int .u64 c3, .int .i64 c4, .int .i64 c5, .bool c6, .int .u64 c7, .int .i64 c8]
  clear hb
  obtain ⟨⟨p0, p1, p2, p3, p4, p5, p6, p7, p8⟩, _⟩ := BB.c9
  go_wp2_with fail
  refine (HG.out _).mono ?_
  rintro e w2 ⟨rfl, hb⟩
  clear p0 p1 p2 p3 p4 p5 p6 p7 p8
  have HB4 := bl_alloc (bl_trans HB hb) (.cells #[.bool d0, .int .i64 d1, .bool d2, .int .u64 d3, .int .i64 d4, .int .i64 d5, .bool d6, .int .u64 d7, .int .i64 d8] 44)
  have BX4 := (BC.call hb).alloc (.cells #[.bool d0, .int .i64 d1, .bool d2, .int .u64 d3, .int .i64 d4, .int .i64 d5, .bool d6, .int .u64 d7, .int .i64 d8] 44)
  have BR4 := (BR.call hb).alloc (.cells #[.bool d0, .int .i64 d1, .bool d2, .int .u64 d3, .int .i64 d4, .int .i64 d5, .bool d6, .int .u64 d7, .int .i64 d8] 44)
  have BY4 := Blk.new w2 44 #[.bool d0, .int .i64 d1, .bool d2, .int .u64 d3, .int .i64 d4, .int .i64 d5, .bool d6, .int .u64 d7, .int .i64 d8]
  clear hb BB BC BR HB HF HG
  cases c0
  · cases d0
    · skip
      obtain ⟨⟨p0, p1, p2, p3, p4, p5, p6, p7, p8⟩, _⟩ := BX4.c9
      obtain ⟨⟨r0', r1', r2', r3', r4', r5', r6', r7', r8'⟩, _⟩ := BY4.c9
      go_wp2_with fail
      replace BX4 := BX4.drew
      replace BY4 := BY4.drew
      replace BR4 := BR4.drew
      replace HB4 := bl_drew HB4
      clear p0 p1 p2 p3 p4 p5 p6 p7 p8 r0' r1' r2' r3' r4' r5' r6' r7' r8'
      refine start_ (n := 14) (S := fun w' => w'.cell? ⟨w1.heap.size, 0, none⟩ = some (.bool false) ∧ w'.cell? ⟨w1.heap.size, 1, none⟩ = some (.int .i64 c1) ∧ w'.cell? ⟨w1.heap.size, 2, none⟩ = some (.bool c2) ∧ w'.cell? ⟨w1.heap.size, 3, none⟩ = some (.int .u64 c3) ∧ w'.cell? ⟨w1.heap.size, 4, none⟩ = some (.int .i64 c4) ∧ w'.cell? ⟨w1.heap.size, 5, none⟩ = some (.int .i64 c5) ∧ w'.cell? ⟨w1.heap.size, 6, none⟩ = some (.bool c6) ∧ w'.cell? ⟨w1.heap.size, 7, none⟩ = some (.int .u64 c7) ∧ w'.cell? ⟨w1.heap.size, 8, none⟩ = some (.int .i64 c8) ∧ w'.cell? ⟨w2.heap.size, 0, none⟩ = some (.bool false) ∧ w'.cell? ⟨w2.heap.size, 1, none⟩ = some (.int .i64 d1) ∧ w'.cell? ⟨w2.heap.size, 2, none⟩ = some (.bool d2) ∧ w'.cell? ⟨w2.heap.size, 3, none⟩ = some (.int .u64 d3) ∧ w'.cell? ⟨w2.heap.size, 4, none⟩ = some (.int .i64 d4) ∧ w'.cell? ⟨w2.heap.size, 5, none⟩ = some (.int .i64 d5) ∧ w'.cell? ⟨w2.heap.size, 6, none⟩ = some (.bool d6) ∧ w'.cell? ⟨w2.heap.size, 7, none⟩ = some (.int .u64 d7) ∧ w'.cell? ⟨w2.heap.size, 8, none⟩ = some (.int .i64 d8)) (ds := [13]) #[false, false, false, false, false, false, false, false, false, false, false, false, false, false] (by kernel_rfl) rfl rfl ⟨BX4.cell 0, BX4.cell 1, BX4.cell 2, BX4.cell 3, BX4.cell 4, BX4.cell 5, BX4.cell 6, BX4.cell 7, BX4.cell 8, BY4.cell 0, BY4.cell 1, BY4.cell 2, BY4.cell 3, BY4.cell 4, BY4.cell 5, BY4.cell 6, BY4.cell 7, BY4.cell 8⟩ (fun hHeld => ?_)
      generalize hWW : World.drew _ = w3 at BX4 BY4 BR4 HB4 hHeld ⊢
      clear hWW
      refine pure_ (i := 0) (N := some 18) (v := ?_) (a' := ?_) #[true, false, false, false, false, false, false, false, false, false, false, false, false, false] rfl rfl (by kernel_rfl) (fun _ _ _ h => h) (Or.inl ⟨by rfl, ?_⟩) ?_ ?_
      rotate_left
      · intro w'
        go_simp
        with_reducible rfl
      rotate_left
      · simp only [Act.put, List.setIfInBounds_toArray, List.set_cons_zero, List.set_cons_succ]
        rfl
      refine take_ (i := 1) (N := some 19) (v := ?_) (a' := ?_) #[true, true, false, false, false, false, false, false, false, false, false, false, false, false] rfl rfl (by kernel_rfl) (fun _ _ _ h => h) (Or.inl ⟨by rfl, ?_⟩) hHeld ?_ ?_
      rotate_left
      · rintro w' ⟨s0_, s1_, s2_, s3_, s4_, s5_, s6_, s7_, s8_, s9_, s10_, s11_, s12_, s13_, s14_, s15_, s16_, s17_⟩
        go_simp
        with_reducible rfl
      rotate_left
      · simp only [Act.put, List.setIfInBounds_toArray, List.set_cons_zero, List.set_cons_succ]
        rfl
      refine pure_ (i := 2) (N := some 20) (v := ?_) (a' := ?_) #[true, true, true, false, false, false, false, false, false, false, false, false, false, false] rfl rfl (by kernel_rfl) (fun _ _ _ h => h) (Or.inl ⟨by rfl, ?_⟩) ?_ ?_
      rotate_left
      · intro w'
        go_simp
        with_reducible rfl
      rotate_left
      · simp only [Act.put, List.setIfInBounds_toArray, List.set_cons_zero, List.set_cons_succ]
        rfl
      refine take_ (i := 3) (N := some 21) (v := ?_) (a' := ?_) #[true, true, true, true, false, false, false, false, false, false, false, false, false, false] rfl rfl (by kernel_rfl) (fun _ _ _ h => h) (Or.inl ⟨by rfl, ?_⟩) hHeld ?_ ?_
      rotate_left
      · rintro w' ⟨s0_, s1_, s2_, s3_, s4_, s5_, s6_, s7_, s8_, s9_, s10_, s11_, s12_, s13_, s14_, s15_, s16_, s17_⟩
        go_simp
        with_reducible rfl
      rotate_left
      · simp only [Act.put, List.setIfInBounds_toArray, List.set_cons_zero, List.set_cons_succ]
        rfl
      refine pure_ (i := 6) (N := some 24) (v := ?_) (a' := ?_) #[true, true, true, true, false, false, true, false, false, false, false, false, false, false] rfl rfl (by kernel_rfl) (fun _ _ _ h => h) (Or.inl ⟨by rfl, ?_⟩) ?_ ?_
      rotate_left
      · intro w'
        go_simp
        with_reducible rfl
      rotate_left
      · simp only [Act.put, List.setIfInBounds_toArray, List.set_cons_zero, List.set_cons_succ]
        rfl
      refine take_ (i := 7) (N := some 25) (v := ?_) (a' := ?_) #[true, true, true, true, false, false, true, true, false, false, false, false, false, false] rfl rfl (by kernel_rfl) (fun _ _ _ h => h) (Or.inl ⟨by rfl, ?_⟩) hHeld ?_ ?_
      rotate_left
      · rintro w' ⟨s0_, s1_, s2_, s3_, s4_, s5_, s6_, s7_, s8_, s9_, s10_, s11_, s12_, s13_, s14_, s15_, s16_, s17_⟩
        go_simp
        with_reducible rfl
      rotate_left
      · simp only [Act.put, List.setIfInBounds_toArray, List.set_cons_zero, List.set_cons_succ]
        rfl
      refine pure_ (i := 8) (N := some 26) (v := ?_) (a' := ?_) #[true, true, true, true, false, false, true, true, true, false, false, false, false, false] rfl rfl (by kernel_rfl) (fun _ _ _ h => h) (Or.inl ⟨by rfl, ?_⟩) ?_ ?_
      rotate_left
      · intro w'
        go_simp
        with_reducible rfl
      rotate_left
      · simp only [Act.put, List.setIfInBounds_toArray, List.set_cons_zero, List.set_cons_succ]
        rfl
      refine take_ (i := 9) (N := some 27) (v := ?_) (a' := ?_) #[true, true, true, true, false, false, true, true, true, true, false, false, false, false] rfl rfl (by kernel_rfl) (fun _ _ _ h => h) (Or.inl ⟨by rfl, ?_⟩) hHeld ?_ ?_
      rotate_left
      · rintro w' ⟨s0_, s1_, s2_, s3_, s4_, s5_, s6_, s7_, s8_, s9_, s10_, s11_, s12_, s13_, s14_, s15_, s16_, s17_⟩
        go_simp
        with_reducible rfl
      rotate_left
      · simp only [Act.put, List.setIfInBounds_toArray, List.set_cons_zero, List.set_cons_succ]
        rfl
      refine join_ (σ := Nat × Nat) 3 #[true, true, true, true, true, true, true, true, true, true, true, false, false, false] (fun s => [(22, .slice (some ⟨s.1, 0, none⟩) 2 2), (23, .agg #[.int .i64 m0, .bool m1, .int .u64 m2, .int .i64 m3]), (28, .slice (some ⟨s.2, 0, none⟩) 2 2)]) (fun s w' => Blk w' w1.heap.size 44 #[.bool false, .int .i64 c1, .bool c2, .int .u64 c3, .int .i64 c4, .int .i64 c5, .bool c6, .int .u64 c7, .int .i64 c8] ∧ Blk w' w2.heap.size 44 #[.bool false, .int .i64 d1, .bool d2, .int .u64 d3, .int .i64 d4, .int .i64 d5, .bool d6, .int .u64 d7, .int .i64 d8] ∧ Blk w' (w.heap.size + 1 + 1) 44 #[.bool false, .int .i64 0, .bool false, .int .u64 0, .int .i64 0, .int .i64 0, .bool false, .int .u64 0, .int .i64 0] ∧ Below w.heap.size w w' ∧ SlN w' w'.heap.size (some ⟨s.2, 0, none⟩) 2 [⟨c5, c6, c7, c8⟩, ⟨d5, d6, d7, d8⟩]) ?_ (fun hJ => ?_)
      · skip
        rintro ⟨s1, s2⟩ w6 ⟨BX4, BY4, BR4, HB4, HS⟩
        clear hHeld
        refine norm_ (a' := ?_) ?_ ?_
        rotate_left
        · simp only [putAll, Act.put, List.setIfInBounds_toArray, List.set_cons_zero, List.set_cons_succ]
          rfl
        refine one_ (i := 11) (N := some 29) #[true, true, true, true, true, true, true, true, true, true, true, true, false, false] rfl rfl (by kernel_rfl) (by decide) (fun K hK => ?_)
        refine goes_ Try.func94 (by kernel_rfl) rfl #[.slice (some ⟨s2, 0, none⟩) 2 2] (by rfl) rfl rfl (by simp only [List.map_toArray, List.map_cons, List.map_nil] <;> rfl) ?_
        with_reducible refine (HLe.out _ _ HS).mono ?_
        rintro e w7 ⟨rfl, hb⟩
        refine ⟨_, rfl, ?_⟩
        have BX4 := BX4.call hb
        have BY4 := BY4.call hb
        have BR4 := BR4.call hb
        have HB4 := bl_trans HB4 hb
        refine hK.out _ _ ⟨BX4.cell 0, BX4.cell 1, BX4.cell 2, BX4.cell 3, BX4.cell 4, BX4.cell 5, BX4.cell 6, BX4.cell 7, BX4.cell 8, BY4.cell 0, BY4.cell 1, BY4.cell 2, BY4.cell 3, BY4.cell 4, BY4.cell 5, BY4.cell 6, BY4.cell 7, BY4.cell 8⟩ (fun hHeld => ?_)
        clear hK K hb
        refine norm_ (a' := ?_) ?_ ?_
        rotate_left
        · show Act.put _ (some 29) _ = _
          simp only [Act.put, List.setIfInBounds_toArray, List.set_cons_zero, List.set_cons_succ]
          rfl
        refine one_ (i := 12) (N := some 30) #[true, true, true, true, true, true, true, true, true, true, true, true, true, false] rfl rfl (by kernel_rfl) (by decide) (fun K hK => ?_)
        refine goes_ Try.func37 (by kernel_rfl) rfl #[.agg #[.int .i64 m0, .bool m1, .int .u64 m2, .int .i64 m3], .agg #[.int .i64 n0, .bool n1, .int .u64 n2, .int .i64 n3]] (by rfl) rfl rfl (by simp only [List.map_toArray, List.map_cons, List.map_nil] <;> rfl) ?_
        with_reducible refine (HMk.out _).mono ?_
        rintro e w8 ⟨rfl, hb⟩
        refine ⟨_, rfl, ?_⟩
        have BX4 := BX4.call hb
        have BY4 := BY4.call hb
        have BR4 := BR4.call hb
        have HB4 := bl_trans HB4 hb
        refine hK.out _ _ ⟨BX4.cell 0, BX4.cell 1, BX4.cell 2, BX4.cell 3, BX4.cell 4, BX4.cell 5, BX4.cell 6, BX4.cell 7, BX4.cell 8, BY4.cell 0, BY4.cell 1, BY4.cell 2, BY4.cell 3, BY4.cell 4, BY4.cell 5, BY4.cell 6, BY4.cell 7, BY4.cell 8⟩ (fun hHeld => ?_)
        clear hK K hb
        refine norm_ (a' := ?_) ?_ ?_
        rotate_left
        · show Act.put _ (some 30) _ = _
          simp only [Act.put, List.setIfInBounds_toArray, List.set_cons_zero, List.set_cons_succ]
          rfl
        obtain ⟨⟨q0, q1, q2, q3, q4, q5, q6, q7, q8⟩, ⟨f0, f1, f2, f3, f4, f5, f6, f7, f8⟩⟩ := BR4.c9
        obtain ⟨W9, hW9, B9, _, hL9, _⟩ := put9 BR4 (.bool r0) (.int .i64 r1) (.bool r2) (.int .u64 r3) (.int .i64 r4) (.int .i64 r5) (.bool r6) (.int .u64 r7) (.int .i64 r8)
        have HB9 := hL9 w HB4 (by omega)
        refine last_ (i := 13) (N := none) #[true, true, true, true, true, true, true, true, true, true, true, true, true, true] rfl rfl (by kernel_rfl) (by decide) (fun K hK => ?_)
        refine skip_ (w1 := ?_) (by rfl) rfl ?_ ?_
        rotate_left
        · go_simp
          rfl
        refine hK.out _ _ ?_
        clear hK K
        refine done_ (by kernel_rfl) ?_
        clear hHeld BX4 BY4 BR4 HB4
        go_wp2
        exact bodyPost_ret (results_cell_row rfl _ _ (w.heap.size + 1 + 1) 44 #[.bool r0, .int .i64 r1, .bool r2, .int .u64 r3, .int .i64 r4, .int .i64 r5, .bool r6, .int .u64 r7, .int .i64 r8] (0, 0) _ rfl B9 Try.underlying44 rfl (by kernel_rfl)) rfl ⟨rfl, HB9⟩
      · skip
        refine two_ (i := 4) (j := 10) (Ni := some 22) (Nj := some 28) #[true, true, true, true, true, false, true, true, true, true, false, false, false, false] #[true, true, true, true, false, false, true, true, true, true, true, false, false, false] rfl rfl rfl rfl (by kernel_rfl) (by decide) (by decide) (fun K hK => ?_) (fun K hK => ?_)
        · skip
          refine value_ (v := ?_) (w1 := ?_) (by rfl) rfl ?_ ?_
          rotate_left 2
          · go_simp
            first | rfl | (constructor <;> rfl)
          have BL := Blk.new w3 42 #[.int .i64 c1, .bool c2, .int .u64 c3, .int .i64 c4, .int .i64 d1, .bool d2, .int .u64 d3, .int .i64 d4]
          have BX4 := BX4.alloc (.cells #[.int .i64 c1, .bool c2, .int .u64 c3, .int .i64 c4, .int .i64 d1, .bool d2, .int .u64 d3, .int .i64 d4] 42)
          have BY4 := BY4.alloc (.cells #[.int .i64 c1, .bool c2, .int .u64 c3, .int .i64 c4, .int .i64 d1, .bool d2, .int .u64 d3, .int .i64 d4] 42)
          have BR4 := BR4.alloc (.cells #[.int .i64 c1, .bool c2, .int .u64 c3, .int .i64 c4, .int .i64 d1, .bool d2, .int .u64 d3, .int .i64 d4] 42)
          have HB4 := bl_alloc HB4 (.cells #[.int .i64 c1, .bool c2, .int .u64 c3, .int .i64 c4, .int .i64 d1, .bool d2, .int .u64 d3, .int .i64 d4] 42)
          refine hK.out _ _ ⟨BX4.cell 0, BX4.cell 1, BX4.cell 2, BX4.cell 3, BX4.cell 4, BX4.cell 5, BX4.cell 6, BX4.cell 7, BX4.cell 8, BY4.cell 0, BY4.cell 1, BY4.cell 2, BY4.cell 3, BY4.cell 4, BY4.cell 5, BY4.cell 6, BY4.cell 7, BY4.cell 8⟩ (fun hHeld => ?_)
          clear hK K
          refine norm_ (a' := ?_) ?_ ?_
          rotate_left
          · show Act.put _ (some 22) _ = _
            simp only [Act.put, List.setIfInBounds_toArray, List.set_cons_zero, List.set_cons_succ]
            rfl
          refine two_ (i := 5) (j := 10) (Ni := some 23) (Nj := some 28) #[true, true, true, true, true, true, true, true, true, true, false, false, false, false] #[true, true, true, true, true, false, true, true, true, true, true, false, false, false] rfl rfl rfl rfl (by kernel_rfl) (by decide) (by decide) (fun K hK => ?_) (fun K hK => ?_)
          · skip
            refine goes_ Try.func93 (by kernel_rfl) rfl #[.slice (some ⟨w3.heap.size, 0, none⟩) 2 2] (by rfl) rfl rfl (by simp only [List.map_toArray, List.map_cons, List.map_nil] <;> rfl) ?_
            with_reducible refine (HMo.out _ _ (SlN.lit2 (x := ⟨c1, c2, c3, c4⟩) (y := ⟨d1, d2, d3, d4⟩) BL BL.lt)).mono ?_
            rintro e w4 ⟨rfl, hb⟩
            refine ⟨_, rfl, ?_⟩
            have BX4 := BX4.call hb
            have BY4 := BY4.call hb
            have BR4 := BR4.call hb
            have HB4 := bl_trans HB4 hb
            refine hK.out _ _ ⟨BX4.cell 0, BX4.cell 1, BX4.cell 2, BX4.cell 3, BX4.cell 4, BX4.cell 5, BX4.cell 6, BX4.cell 7, BX4.cell 8, BY4.cell 0, BY4.cell 1, BY4.cell 2, BY4.cell 3, BY4.cell 4, BY4.cell 5, BY4.cell 6, BY4.cell 7, BY4.cell 8⟩ (fun hHeld => ?_)
            clear hK K hb
            refine norm_ (a' := ?_) ?_ ?_
            rotate_left
            · show Act.put _ (some 23) _ = _
              simp only [Act.put, List.setIfInBounds_toArray, List.set_cons_zero, List.set_cons_succ]
              rfl
            refine one_ (i := 10) (N := some 28) #[true, true, true, true, true, true, true, true, true, true, true, false, false, false] rfl rfl (by kernel_rfl) (by decide) (fun K hK => ?_)
            refine value_ (v := ?_) (w1 := ?_) (by rfl) rfl ?_ ?_
            rotate_left 2
            · go_simp
              first | rfl | (constructor <;> rfl)
            have BL2 := Blk.new w4 42 #[.int .i64 c5, .bool c6, .int .u64 c7, .int .i64 c8, .int .i64 d5, .bool d6, .int .u64 d7, .int .i64 d8]
            have BX4 := BX4.alloc (.cells #[.int .i64 c5, .bool c6, .int .u64 c7, .int .i64 c8, .int .i64 d5, .bool d6, .int .u64 d7, .int .i64 d8] 42)
            have BY4 := BY4.alloc (.cells #[.int .i64 c5, .bool c6, .int .u64 c7, .int .i64 c8, .int .i64 d5, .bool d6, .int .u64 d7, .int .i64 d8] 42)
            have BR4 := BR4.alloc (.cells #[.int .i64 c5, .bool c6, .int .u64 c7, .int .i64 c8, .int .i64 d5, .bool d6, .int .u64 d7, .int .i64 d8] 42)
            have HB4 := bl_alloc HB4 (.cells #[.int .i64 c5, .bool c6, .int .u64 c7, .int .i64 c8, .int .i64 d5, .bool d6, .int .u64 d7, .int .i64 d8] 42)
            refine hK.out _ _ ⟨BX4.cell 0, BX4.cell 1, BX4.cell 2, BX4.cell 3, BX4.cell 4, BX4.cell 5, BX4.cell 6, BX4.cell 7, BX4.cell 8, BY4.cell 0, BY4.cell 1, BY4.cell 2, BY4.cell 3, BY4.cell 4, BY4.cell 5, BY4.cell 6, BY4.cell 7, BY4.cell 8⟩ (fun hHeld => ?_)
            exact norm_ (by rfl) (hJ (w3.heap.size, w4.heap.size) _ ⟨BX4, BY4, BR4, HB4, (SlN.lit2 (x := ⟨c5, c6, c7, c8⟩) (y := ⟨d5, d6, d7, d8⟩) BL2 BL2.lt)⟩)
          · skip
            refine value_ (v := ?_) (w1 := ?_) (by rfl) rfl ?_ ?_
            rotate_left 2
            · go_simp
              first | rfl | (constructor <;> rfl)
            have BL2 := Blk.new1 w3 (.cells #[.int .i64 c1, .bool c2, .int .u64 c3, .int .i64 c4, .int .i64 d1, .bool d2, .int .u64 d3, .int .i64 d4] 42) 42 #[.int .i64 c5, .bool c6, .int .u64 c7, .int .i64 c8, .int .i64 d5, .bool d6, .int .u64 d7, .int .i64 d8]
            have BL := BL.alloc (.cells #[.int .i64 c5, .bool c6, .int .u64 c7, .int .i64 c8, .int .i64 d5, .bool d6, .int .u64 d7, .int .i64 d8] 42)
            have BX4 := BX4.alloc (.cells #[.int .i64 c5, .bool c6, .int .u64 c7, .int .i64 c8, .int .i64 d5, .bool d6, .int .u64 d7, .int .i64 d8] 42)
            have BY4 := BY4.alloc (.cells #[.int .i64 c5, .bool c6, .int .u64 c7, .int .i64 c8, .int .i64 d5, .bool d6, .int .u64 d7, .int .i64 d8] 42)
            have BR4 := BR4.alloc (.cells #[.int .i64 c5, .bool c6, .int .u64 c7, .int .i64 c8, .int .i64 d5, .bool d6, .int .u64 d7, .int .i64 d8] 42)
            have HB4 := bl_alloc HB4 (.cells #[.int .i64 c5, .bool c6, .int .u64 c7, .int .i64 c8, .int .i64 d5, .bool d6, .int .u64 d7, .int .i64 d8] 42)
            refine hK.out _ _ ⟨BX4.cell 0, BX4.cell 1, BX4.cell 2, BX4.cell 3, BX4.cell 4, BX4.cell 5, BX4.cell 6, BX4.cell 7, BX4.cell 8, BY4.cell 0, BY4.cell 1, BY4.cell 2, BY4.cell 3, BY4.cell 4, BY4.cell 5, BY4.cell 6, BY4.cell 7, BY4.cell 8⟩ (fun hHeld => ?_)
            clear hK K
            refine norm_ (a' := ?_) ?_ ?_
            rotate_left
            · show Act.put _ (some 28) _ = _
              simp only [Act.put, List.setIfInBounds_toArray, List.set_cons_zero, List.set_cons_succ]
              rfl
            refine one_ (i := 5) (N := some 23) #[true, true, true, true, true, true, true, true, true, true, true, false, false, false] rfl rfl (by kernel_rfl) (by decide) (fun K hK => ?_)
            refine goes_ Try.func93 (by kernel_rfl) rfl #[.slice (some ⟨w3.heap.size, 0, none⟩) 2 2] (by rfl) rfl rfl (by simp only [List.map_toArray, List.map_cons, List.map_nil] <;> rfl) ?_
            with_reducible refine (HMo.out _ _ (SlN.lit2 (x := ⟨c1, c2, c3, c4⟩) (y := ⟨d1, d2, d3, d4⟩) BL BL.lt)).mono ?_
            rintro e w4 ⟨rfl, hb⟩
            refine ⟨_, rfl, ?_⟩
            have BX4 := BX4.call hb
            have BY4 := BY4.call hb
            have BR4 := BR4.call hb
            have HB4 := bl_trans HB4 hb
            have BL2 := BL2.call hb
            refine hK.out _ _ ⟨BX4.cell 0, BX4.cell 1, BX4.cell 2, BX4.cell 3, BX4.cell 4, BX4.cell 5, BX4.cell 6, BX4.cell 7, BX4.cell 8, BY4.cell 0, BY4.cell 1, BY4.cell 2, BY4.cell 3, BY4.cell 4, BY4.cell 5, BY4.cell 6, BY4.cell 7, BY4.cell 8⟩ (fun hHeld => ?_)
            exact norm_ (by rfl) (hJ (w3.heap.size, w3.heap.size + 1) _ ⟨BX4, BY4, BR4, HB4, (SlN.lit2 (x := ⟨c5, c6, c7, c8⟩) (y := ⟨d5, d6, d7, d8⟩) BL2 BL2.lt)⟩)
        · skip
          refine value_ (v := ?_) (w1 := ?_) (by rfl) rfl ?_ ?_
          rotate_left 2
          · go_simp
            first | rfl | (constructor <;> rfl)
          have BL2 := Blk.new w3 42 #[.int .i64 c5, .bool c6, .int .u64 c7, .int .i64 c8, .int .i64 d5, .bool d6, .int .u64 d7, .int .i64 d8]
          have BX4 := BX4.alloc (.cells #[.int .i64 c5, .bool c6, .int .u64 c7, .int .i64 c8, .int .i64 d5, .bool d6, .int .u64 d7, .int .i64 d8] 42)
          have BY4 := BY4.alloc (.cells #[.int .i64 c5, .bool c6, .int .u64 c7, .int .i64 c8, .int .i64 d5, .bool d6, .int .u64 d7, .int .i64 d8] 42)
          have BR4 := BR4.alloc (.cells #[.int .i64 c5, .bool c6, .int .u64 c7, .int .i64 c8, .int .i64 d5, .bool d6, .int .u64 d7, .int .i64 d8] 42)
          have HB4 := bl_alloc HB4 (.cells #[.int .i64 c5, .bool c6, .int .u64 c7, .int .i64 c8, .int .i64 d5, .bool d6, .int .u64 d7, .int .i64 d8] 42)
          refine hK.out _ _ ⟨BX4.cell 0, BX4.cell 1, BX4.cell 2, BX4.cell 3, BX4.cell 4, BX4.cell 5, BX4.cell 6, BX4.cell 7, BX4.cell 8, BY4.cell 0, BY4.cell 1, BY4.cell 2, BY4.cell 3, BY4.cell 4, BY4.cell 5, BY4.cell 6, BY4.cell 7, BY4.cell 8⟩ (fun hHeld => ?_)
          clear hK K
          refine norm_ (a' := ?_) ?_ ?_
          rotate_left
          · show Act.put _ (some 28) _ = _
            simp only [Act.put, List.setIfInBounds_toArray, List.set_cons_zero, List.set_cons_succ]
            rfl
          refine one_ (i := 4) (N := some 22) #[true, true, true, true, true, false, true, true, true, true, true, false, false, false] rfl rfl (by kernel_rfl) (by decide) (fun K hK => ?_)
          refine value_ (v := ?_) (w1 := ?_) (by rfl) rfl ?_ ?_
          rotate_left 2
          · go_simp
            first | rfl | (constructor <;> rfl)
          have BL := Blk.new1 w3 (.cells #[.int .i64 c5, .bool c6, .int .u64 c7, .int .i64 c8, .int .i64 d5, .bool d6, .int .u64 d7, .int .i64 d8] 42) 42 #[.int .i64 c1, .bool c2, .int .u64 c3, .int .i64 c4, .int .i64 d1, .bool d2, .int .u64 d3, .int .i64 d4]
          have BL2 := BL2.alloc (.cells #[.int .i64 c1, .bool c2, .int .u64 c3, .int .i64 c4, .int .i64 d1, .bool d2, .int .u64 d3, .int .i64 d4] 42)
          have BX4 := BX4.alloc (.cells #[.int .i64 c1, .bool c2, .int .u64 c3, .int .i64 c4, .int .i64 d1, .bool d2, .int .u64 d3, .int .i64 d4] 42)
          have BY4 := BY4.alloc (.cells #[.int .i64 c1, .bool c2, .int .u64 c3, .int .i64 c4, .int .i64 d1, .bool d2, .int .u64 d3, .int .i64 d4] 42)
          have BR4 := BR4.alloc (.cells #[.int .i64 c1, .bool c2, .int .u64 c3, .int .i64 c4, .int .i64 d1, .bool d2, .int .u64 d3, .int .i64 d4] 42)
          have HB4 := bl_alloc HB4 (.cells #[.int .i64 c1, .bool c2, .int .u64 c3, .int .i64 c4, .int .i64 d1, .bool d2, .int .u64 d3, .int .i64 d4] 42)
          refine hK.out _ _ ⟨BX4.cell 0, BX4.cell 1, BX4.cell 2, BX4.cell 3, BX4.cell 4, BX4.cell 5, BX4.cell 6, BX4.cell 7, BX4.cell 8, BY4.cell 0, BY4.cell 1, BY4.cell 2, BY4.cell 3, BY4.cell 4, BY4.cell 5, BY4.cell 6, BY4.cell 7, BY4.cell 8⟩ (fun hHeld => ?_)
          clear hK K
          refine norm_ (a' := ?_) ?_ ?_
          rotate_left
          · show Act.put _ (some 22) _ = _
            simp only [Act.put, List.setIfInBounds_toArray, List.set_cons_zero, List.set_cons_succ]
            rfl
          refine one_ (i := 5) (N := some 23) #[true, true, true, true, true, true, true, true, true, true, true, false, false, false] rfl rfl (by kernel_rfl) (by decide) (fun K hK => ?_)
          refine goes_ Try.func93 (by kernel_rfl) rfl #[.slice (some ⟨w3.heap.size + 1, 0, none⟩) 2 2] (by rfl) rfl rfl (by simp only [List.map_toArray, List.map_cons, List.map_nil] <;> rfl) ?_
          with_reducible refine (HMo.out _ _ (SlN.lit2 (x := ⟨c1, c2, c3, c4⟩) (y := ⟨d1, d2, d3, d4⟩) BL BL.lt)).mono ?_
          rintro e w4 ⟨rfl, hb⟩
          refine ⟨_, rfl, ?_⟩
          have BX4 := BX4.call hb
          have BY4 := BY4.call hb
          have BR4 := BR4.call hb
          have HB4 := bl_trans HB4 hb
          have BL2 := BL2.call hb
          refine hK.out _ _ ⟨BX4.cell 0, BX4.cell 1, BX4.cell 2, BX4.cell 3, BX4.cell 4, BX4.cell 5, BX4.cell 6, BX4.cell 7, BX4.cell 8, BY4.cell 0, BY4.cell 1, BY4.cell 2, BY4.cell 3, BY4.cell 4, BY4.cell 5, BY4.cell 6, BY4.cell 7, BY4.cell 8⟩ (fun hHeld => ?_)
          exact norm_ (by rfl) (hJ (w3.heap.size + 1, w3.heap.size) _ ⟨BX4, BY4, BR4, HB4, (SlN.lit2 (x := ⟨c5, c6, c7, c8⟩) (y := ⟨d5, d6, d7, d8⟩) BL2 BL2.lt)⟩)
    · skip
      obtain ⟨⟨p0, p1, p2, p3, p4, p5, p6, p7, p8⟩, _⟩ := BX4.c9
      obtain ⟨⟨r0', r1', r2', r3', r4', r5', r6', r7', r8'⟩, _⟩ := BY4.c9
      go_wp2_with (go_at_call 44; refine (r8none_lit _).mono ?_; rintro e w3 ⟨rfl, hb⟩; have BR4 := BR4.call hb; have HB4 := bl_trans HB4 hb; obtain ⟨⟨q0, q1, q2, q3, q4, q5, q6, q7, q8⟩, ⟨f0, f1, f2, f3, f4, f5, f6, f7, f8⟩⟩ := BR4.c9; obtain ⟨W9, hW9, B9, _, hL9, _⟩ := put9 BR4 (.bool true) (.int .i64 0) (.bool false) (.int .u64 0) (.int .i64 0) (.int .i64 0) (.bool false) (.int .u64 0) (.int .i64 0); have HB9 := hL9 w HB4 (by omega))
      exact bodyPost_ret (results_cell_row rfl _ _ (w.heap.size + 1 + 1) 44 #[.bool true, .int .i64 0, .bool false, .int .u64 0, .int .i64 0, .int .i64 0, .bool false, .int .u64 0, .int .i64 0] (0, 0) _ rfl B9 Try.underlying44 rfl (by kernel_rfl)) rfl ⟨rfl, HB9⟩
  · skip
    obtain ⟨⟨p0, p1, p2, p3, p4, p5, p6, p7, p8⟩, _⟩ := BX4.c9
    obtain ⟨⟨r0', r1', r2', r3', r4', r5', r6', r7', r8'⟩, _⟩ := BY4.c9
    go_wp2_with (go_at_call 44; refine (r8none_lit _).mono ?_; rintro e w3 ⟨rfl, hb⟩; have BR4 := BR4.call hb; have HB4 := bl_trans HB4 hb; obtain ⟨⟨q0, q1, q2, q3, q4, q5, q6, q7, q8⟩, ⟨f0, f1, f2, f3, f4, f5, f6, f7, f8⟩⟩ := BR4.c9; obtain ⟨W9, hW9, B9, _, hL9, _⟩ := put9 BR4 (.bool true) (.int .i64 0) (.bool false) (.int .u64 0) (.int .i64 0) (.int .i64 0) (.bool false) (.int .u64 0) (.int .i64 0); have HB9 := hL9 w HB4 (by omega))
    exact bodyPost_ret (results_cell_row rfl _ _ (w.heap.size + 1 + 1) 44 #[.bool true, .int .i64 0, .bool false, .int .u64 0, .int .i64 0, .int .i64 0, .bool false, .int .u64 0, .int .i64 0] (0, 0) _ rfl B9 Try.underlying44 rfl (by kernel_rfl)) rfl ⟨rfl, HB9⟩

set_option maxRecDepth 100000 in
set_option maxHeartbeats 8000000 in
theorem r8both_calls (a0 : Bool) (a1 : Int) (a2 : Bool) (a3 a4 a5 : Int) (a6 : Bool) (a7 a8 : Int) (b0 : Bool) (b1 : Int) (b2 : Bool) (b3 b4 b5 : Int) (b6 : Bool) (b7 b8 : Int) (w : World) :
    Calls Try.prog 70 #[.agg #[.bool a0, .int .i64 a1, .bool a2, .int .u64 a3, .int .i64 a4, .int .i64 a5, .bool a6, .int .u64 a7, .int .i64 a8], .agg #[.bool b0, .int .i64 b1, .bool b2, .int .u64 b3, .int .i64 b4, .int .i64 b5, .bool b6, .int .u64 b7, .int .i64 b8]] w fun e w' => e = .returned (.agg #[.bool (bothI ⟨a0, ⟨a1, a2, a3, a4⟩, ⟨a5, a6, a7, a8⟩⟩ ⟨b0, ⟨b1, b2, b3, b4⟩, ⟨b5, b6, b7, b8⟩⟩).emp, .int .i64 ((bothI ⟨a0, ⟨a1, a2, a3, a4⟩, ⟨a5, a6, a7, a8⟩⟩ ⟨b0, ⟨b1, b2, b3, b4⟩, ⟨b5, b6, b7, b8⟩⟩).lo).k, .bool ((bothI ⟨a0, ⟨a1, a2, a3, a4⟩, ⟨a5, a6, a7, a8⟩⟩ ⟨b0, ⟨b1, b2, b3, b4⟩, ⟨b5, b6, b7, b8⟩⟩).lo).n, .int .u64 ((bothI ⟨a0, ⟨a1, a2, a3, a4⟩, ⟨a5, a6, a7, a8⟩⟩ ⟨b0, ⟨b1, b2, b3, b4⟩, ⟨b5, b6, b7, b8⟩⟩).lo).m, .int .i64 ((bothI ⟨a0, ⟨a1, a2, a3, a4⟩, ⟨a5, a6, a7, a8⟩⟩ ⟨b0, ⟨b1, b2, b3, b4⟩, ⟨b5, b6, b7, b8⟩⟩).lo).e, .int .i64 ((bothI ⟨a0, ⟨a1, a2, a3, a4⟩, ⟨a5, a6, a7, a8⟩⟩ ⟨b0, ⟨b1, b2, b3, b4⟩, ⟨b5, b6, b7, b8⟩⟩).hi).k, .bool ((bothI ⟨a0, ⟨a1, a2, a3, a4⟩, ⟨a5, a6, a7, a8⟩⟩ ⟨b0, ⟨b1, b2, b3, b4⟩, ⟨b5, b6, b7, b8⟩⟩).hi).n, .int .u64 ((bothI ⟨a0, ⟨a1, a2, a3, a4⟩, ⟨a5, a6, a7, a8⟩⟩ ⟨b0, ⟨b1, b2, b3, b4⟩, ⟨b5, b6, b7, b8⟩⟩).hi).m, .int .i64 ((bothI ⟨a0, ⟨a1, a2, a3, a4⟩, ⟨a5, a6, a7, a8⟩⟩ ⟨b0, ⟨b1, b2, b3, b4⟩, ⟨b5, b6, b7, b8⟩⟩).hi).e]) ∧ Below w.heap.size w w' := by
  unfold bothI
  have HF := Lib.hid (fun W => r8fair_calls a0 a1 a2 a3 a4 a5 a6 a7 a8 W)
  have HG := Lib.hid (fun W => r8fair_calls b0 b1 b2 b3 b4 b5 b6 b7 b8 W)
  generalize fairI ⟨a0, ⟨a1, a2, a3, a4⟩, ⟨a5, a6, a7, a8⟩⟩ = c at HF ⊢
  generalize fairI ⟨b0, ⟨b1, b2, b3, b4⟩, ⟨b5, b6, b7, b8⟩⟩ = d at HG ⊢
  obtain ⟨c0, ⟨c1, c2, c3, c4⟩, ⟨c5, c6, c7, c8⟩⟩ := c
  obtain ⟨d0, ⟨d1, d2, d3, d4⟩, ⟨d5, d6, d7, d8⟩⟩ := d
  dsimp only at HF HG ⊢
  have HMo := Lib.hid (fun A W (h : SlN W W.heap.size A 2 [⟨c1, c2, c3, c4⟩, ⟨d1, d2, d3, d4⟩]) => rleastN_calls A 2 2 _ W h (by omega))
  have HLe := Lib.hid (fun A W (h : SlN W W.heap.size A 2 [⟨c5, c6, c7, c8⟩, ⟨d5, d6, d7, d8⟩]) => rmostN_calls A 2 2 _ W h (by omega))
  generalize leastN [⟨c1, c2, c3, c4⟩, ⟨d1, d2, d3, d4⟩] = m at HMo ⊢
  generalize mostN [⟨c5, c6, c7, c8⟩, ⟨d5, d6, d7, d8⟩] = n at HLe ⊢
  obtain ⟨m0, m1, m2, m3⟩ := m
  obtain ⟨n0, n1, n2, n3⟩ := n
  have HMk := Lib.hid (fun W => r8make_calls m0 m1 m2 m3 n0 n1 n2 n3 W)
  generalize makeI ⟨m0, m1, m2, m3⟩ ⟨n0, n1, n2, n3⟩ = r at HMk ⊢
  obtain ⟨r0, ⟨r1, r2, r3, r4⟩, ⟨r5, r6, r7, r8⟩⟩ := r
  dsimp only at HMo HLe HMk ⊢
  have BB := (Blk.new1 w (.cells #[.bool a0, .int .i64 a1, .bool a2, .int .u64 a3, .int .i64 a4, .int .i64 a5, .bool a6, .int .u64 a7, .int .i64 a8] 44) 44 #[.bool b0, .int .i64 b1, .bool b2, .int .u64 b3, .int .i64 b4, .int .i64 b5, .bool b6, .int .u64 b7, .int .i64 b8]).alloc (.cells #[.bool false, .int .i64 0, .bool false, .int .u64 0, .int .i64 0, .int .i64 0, .bool false, .int .u64 0, .int .i64 0] 44)
  have BR0 := (Blk.new2 w (.cells #[.bool a0, .int .i64 a1, .bool a2, .int .u64 a3, .int .i64 a4, .int .i64 a5, .bool a6, .int .u64 a7, .int .i64 a8] 44) (.cells #[.bool b0, .int .i64 b1, .bool b2, .int .u64 b3, .int .i64 b4, .int .i64 b5, .bool b6, .int .u64 b7, .int .i64 b8] 44) 44 #[.bool false, .int .i64 0, .bool false, .int .u64 0, .int .i64 0, .int .i64 0, .bool false, .int .u64 0, .int .i64 0])
  have BR : Blk _ (w.heap.size + 1 + 1) _ _ := BR0
  clear BR0
  have HB := bl_alloc (bl_alloc (bl_alloc (Below.refl w.heap.size w) (.cells #[.bool a0, .int .i64 a1, .bool a2, .int .u64 a3, .int .i64 a4, .int .i64 a5, .bool a6, .int .u64 a7, .int .i64 a8] 44)) (.cells #[.bool b0, .int .i64 b1, .bool b2, .int .u64 b3, .int .i64 b4, .int .i64 b5, .bool b6, .int .u64 b7, .int .i64 b8] 44)) (.cells #[.bool false, .int .i64 0, .bool false, .int .u64 0, .int .i64 0, .int .i64 0, .bool false, .int .u64 0, .int .i64 0] 44)
  go_enter Try.func70, Try.ntmps70
  go_wp2_with fail
  refine (HF.out _).mono ?_
  rintro e w1 ⟨rfl, hb⟩
  have BB := (BB.call hb).alloc (.cells #[.bool c0, .int .i64 c1, .bool c2, .int .u64 c3, .int .i64 c4, .int .i64 c5, .bool c6, .int .u64 c7, .int .i64 c8] 44)
  have BR := (BR.call hb).alloc (.cells #[.bool c0, .int .i64 c1, .bool c2, .int .u64 c3, .int .i64 c4, .int .i64 c5, .bool c6, .int .u64 c7, .int .i64 c8] 44)
  have HB := bl_alloc (bl_trans HB hb) (.cells #[.bool c0, .int .i64 c1, .bool c2, .int .u64 c3, .int .i64 c4, .int .i64 c5, .bool c6, .int .u64 c7, .int .i64 c8] 44)
  have BC := Blk.new w1 44 #[.bool c0, .int .i64 c1, .bool c2, .int .u64 c3, .int .i64 c4, .int .i64 c5, .bool c6, .int .u64 c7, .int .i64 c8]
  clear hb
  obtain ⟨⟨p0, p1, p2, p3, p4, p5, p6, p7, p8⟩, _⟩ := BB.c9
  go_wp2_with fail
  refine (HG.out _).mono ?_
  rintro e w2 ⟨rfl, hb⟩
  clear p0 p1 p2 p3 p4 p5 p6 p7 p8
  have HB4 := bl_alloc (bl_trans HB hb) (.cells #[.bool d0, .int .i64 d1, .bool d2, .int .u64 d3, .int .i64 d4, .int .i64 d5, .bool d6, .int .u64 d7, .int .i64 d8] 44)
  have BX4 := (BC.call hb).alloc (.cells #[.bool d0, .int .i64 d1, .bool d2, .int .u64 d3, .int .i64 d4, .int .i64 d5, .bool d6, .int .u64 d7, .int .i64 d8] 44)
  have BR4 := (BR.call hb).alloc (.cells #[.bool d0, .int .i64 d1, .bool d2, .int .u64 d3, .int .i64 d4, .int .i64 d5, .bool d6, .int .u64 d7, .int .i64 d8] 44)
  have BY4 := Blk.new w2 44 #[.bool d0, .int .i64 d1, .bool d2, .int .u64 d3, .int .i64 d4, .int .i64 d5, .bool d6, .int .u64 d7, .int .i64 d8]
  clear hb BB BC BR HB HF HG
  cases c0
  · cases d0
    · skip
      obtain ⟨⟨p0, p1, p2, p3, p4, p5, p6, p7, p8⟩, _⟩ := BX4.c9
      obtain ⟨⟨r0', r1', r2', r3', r4', r5', r6', r7', r8'⟩, _⟩ := BY4.c9
      go_wp2_with fail
      replace BX4 := BX4.drew
      replace BY4 := BY4.drew
      replace BR4 := BR4.drew
      replace HB4 := bl_drew HB4
      clear p0 p1 p2 p3 p4 p5 p6 p7 p8 r0' r1' r2' r3' r4' r5' r6' r7' r8'
      refine start_ (n := 14) (S := fun w' => w'.cell? ⟨w1.heap.size, 0, none⟩ = some (.bool false) ∧ w'.cell? ⟨w1.heap.size, 1, none⟩ = some (.int .i64 c1) ∧ w'.cell? ⟨w1.heap.size, 2, none⟩ = some (.bool c2) ∧ w'.cell? ⟨w1.heap.size, 3, none⟩ = some (.int .u64 c3) ∧ w'.cell? ⟨w1.heap.size, 4, none⟩ = some (.int .i64 c4) ∧ w'.cell? ⟨w1.heap.size, 5, none⟩ = some (.int .i64 c5) ∧ w'.cell? ⟨w1.heap.size, 6, none⟩ = some (.bool c6) ∧ w'.cell? ⟨w1.heap.size, 7, none⟩ = some (.int .u64 c7) ∧ w'.cell? ⟨w1.heap.size, 8, none⟩ = some (.int .i64 c8) ∧ w'.cell? ⟨w2.heap.size, 0, none⟩ = some (.bool false) ∧ w'.cell? ⟨w2.heap.size, 1, none⟩ = some (.int .i64 d1) ∧ w'.cell? ⟨w2.heap.size, 2, none⟩ = some (.bool d2) ∧ w'.cell? ⟨w2.heap.size, 3, none⟩ = some (.int .u64 d3) ∧ w'.cell? ⟨w2.heap.size, 4, none⟩ = some (.int .i64 d4) ∧ w'.cell? ⟨w2.heap.size, 5, none⟩ = some (.int .i64 d5) ∧ w'.cell? ⟨w2.heap.size, 6, none⟩ = some (.bool d6) ∧ w'.cell? ⟨w2.heap.size, 7, none⟩ = some (.int .u64 d7) ∧ w'.cell? ⟨w2.heap.size, 8, none⟩ = some (.int .i64 d8)) (ds := [13]) #[false, false, false, false, false, false, false, false, false, false, false, false, false, false] (by kernel_rfl) rfl rfl ⟨BX4.cell 0, BX4.cell 1, BX4.cell 2, BX4.cell 3, BX4.cell 4, BX4.cell 5, BX4.cell 6, BX4.cell 7, BX4.cell 8, BY4.cell 0, BY4.cell 1, BY4.cell 2, BY4.cell 3, BY4.cell 4, BY4.cell 5, BY4.cell 6, BY4.cell 7, BY4.cell 8⟩ (fun hHeld => ?_)
      generalize hWW : World.drew _ = w3 at BX4 BY4 BR4 HB4 hHeld ⊢
      clear hWW
      refine pure_ (i := 0) (N := some 17) (v := ?_) (a' := ?_) #[true, false, false, false, false, false, false, false, false, false, false, false, false, false] rfl rfl (by kernel_rfl) (fun _ _ _ h => h) (Or.inl ⟨by rfl, ?_⟩) ?_ ?_
      rotate_left
      · intro w'
        go_simp
        with_reducible rfl
      rotate_left
      · simp only [Act.put, List.setIfInBounds_toArray, List.set_cons_zero, List.set_cons_succ]
        rfl
      refine take_ (i := 1) (N := some 18) (v := ?_) (a' := ?_) #[true, true, false, false, false, false, false, false, false, false, false, false, false, false] rfl rfl (by kernel_rfl) (fun _ _ _ h => h) (Or.inl ⟨by rfl, ?_⟩) hHeld ?_ ?_
      rotate_left
      · rintro w' ⟨s0_, s1_, s2_, s3_, s4_, s5_, s6_, s7_, s8_, s9_, s10_, s11_, s12_, s13_, s14_, s15_, s16_, s17_⟩
        go_simp
        with_reducible rfl
      rotate_left
      · simp only [Act.put, List.setIfInBounds_toArray, List.set_cons_zero, List.set_cons_succ]
        rfl
      refine pure_ (i := 2) (N := some 19) (v := ?_) (a' := ?_) #[true, true, true, false, false, false, false, false, false, false, false, false, false, false] rfl rfl (by kernel_rfl) (fun _ _ _ h => h) (Or.inl ⟨by rfl, ?_⟩) ?_ ?_
      rotate_left
      · intro w'
        go_simp
        with_reducible rfl
      rotate_left
      · simp only [Act.put, List.setIfInBounds_toArray, List.set_cons_zero, List.set_cons_succ]
        rfl
      refine take_ (i := 3) (N := some 20) (v := ?_) (a' := ?_) #[true, true, true, true, false, false, false, false, false, false, false, false, false, false] rfl rfl (by kernel_rfl) (fun _ _ _ h => h) (Or.inl ⟨by rfl, ?_⟩) hHeld ?_ ?_
      rotate_left
      · rintro w' ⟨s0_, s1_, s2_, s3_, s4_, s5_, s6_, s7_, s8_, s9_, s10_, s11_, s12_, s13_, s14_, s15_, s16_, s17_⟩
        go_simp
        with_reducible rfl
      rotate_left
      · simp only [Act.put, List.setIfInBounds_toArray, List.set_cons_zero, List.set_cons_succ]
        rfl
      refine pure_ (i := 6) (N := some 23) (v := ?_) (a' := ?_) #[true, true, true, true, false, false, true, false, false, false, false, false, false, false] rfl rfl (by kernel_rfl) (fun _ _ _ h => h) (Or.inl ⟨by rfl, ?_⟩) ?_ ?_
      rotate_left
      · intro w'
        go_simp
        with_reducible rfl
      rotate_left
      · simp only [Act.put, List.setIfInBounds_toArray, List.set_cons_zero, List.set_cons_succ]
        rfl
      refine take_ (i := 7) (N := some 24) (v := ?_) (a' := ?_) #[true, true, true, true, false, false, true, true, false, false, false, false, false, false] rfl rfl (by kernel_rfl) (fun _ _ _ h => h) (Or.inl ⟨by rfl, ?_⟩) hHeld ?_ ?_
      rotate_left
      · rintro w' ⟨s0_, s1_, s2_, s3_, s4_, s5_, s6_, s7_, s8_, s9_, s10_, s11_, s12_, s13_, s14_, s15_, s16_, s17_⟩
        go_simp
        with_reducible rfl
      rotate_left
      · simp only [Act.put, List.setIfInBounds_toArray, List.set_cons_zero, List.set_cons_succ]
        rfl
      refine pure_ (i := 8) (N := some 25) (v := ?_) (a' := ?_) #[true, true, true, true, false, false, true, true, true, false, false, false, false, false] rfl rfl (by kernel_rfl) (fun _ _ _ h => h) (Or.inl ⟨by rfl, ?_⟩) ?_ ?_
      rotate_left
      · intro w'
        go_simp
        with_reducible rfl
      rotate_left
      · simp only [Act.put, List.setIfInBounds_toArray, List.set_cons_zero, List.set_cons_succ]
        rfl
      refine take_ (i := 9) (N := some 26) (v := ?_) (a' := ?_) #[true, true, true, true, false, false, true, true, true, true, false, false, false, false] rfl rfl (by kernel_rfl) (fun _ _ _ h => h) (Or.inl ⟨by rfl, ?_⟩) hHeld ?_ ?_
      rotate_left
      · rintro w' ⟨s0_, s1_, s2_, s3_, s4_, s5_, s6_, s7_, s8_, s9_, s10_, s11_, s12_, s13_, s14_, s15_, s16_, s17_⟩
        go_simp
        with_reducible rfl
      rotate_left
      · simp only [Act.put, List.setIfInBounds_toArray, List.set_cons_zero, List.set_cons_succ]
        rfl
      refine join_ (σ := Nat × Nat) 3 #[true, true, true, true, true, true, true, true, true, true, true, false, false, false] (fun s => [(21, .slice (some ⟨s.1, 0, none⟩) 2 2), (22, .agg #[.int .i64 m0, .bool m1, .int .u64 m2, .int .i64 m3]), (27, .slice (some ⟨s.2, 0, none⟩) 2 2)]) (fun s w' => Blk w' w1.heap.size 44 #[.bool false, .int .i64 c1, .bool c2, .int .u64 c3, .int .i64 c4, .int .i64 c5, .bool c6, .int .u64 c7, .int .i64 c8] ∧ Blk w' w2.heap.size 44 #[.bool false, .int .i64 d1, .bool d2, .int .u64 d3, .int .i64 d4, .int .i64 d5, .bool d6, .int .u64 d7, .int .i64 d8] ∧ Blk w' (w.heap.size + 1 + 1) 44 #[.bool false, .int .i64 0, .bool false, .int .u64 0, .int .i64 0, .int .i64 0, .bool false, .int .u64 0, .int .i64 0] ∧ Below w.heap.size w w' ∧ SlN w' w'.heap.size (some ⟨s.2, 0, none⟩) 2 [⟨c5, c6, c7, c8⟩, ⟨d5, d6, d7, d8⟩]) ?_ (fun hJ => ?_)
      · skip
        rintro ⟨s1, s2⟩ w6 ⟨BX4, BY4, BR4, HB4, HS⟩
        clear hHeld
        refine norm_ (a' := ?_) ?_ ?_
        rotate_left
        · simp only [putAll, Act.put, List.setIfInBounds_toArray, List.set_cons_zero, List.set_cons_succ]
          rfl
        refine one_ (i := 11) (N := some 28) #[true, true, true, true, true, true, true, true, true, true, true, true, false, false] rfl rfl (by kernel_rfl) (by decide) (fun K hK => ?_)
        refine goes_ Try.func93 (by kernel_rfl) rfl #[.slice (some ⟨s2, 0, none⟩) 2 2] (by rfl) rfl rfl (by simp only [List.map_toArray, List.map_cons, List.map_nil] <;> rfl) ?_
        with_reducible refine (HLe.out _ _ HS).mono ?_
        rintro e w7 ⟨rfl, hb⟩
        refine ⟨_, rfl, ?_⟩
        have BX4 := BX4.call hb
        have BY4 := BY4.call hb
        have BR4 := BR4.call hb
        have HB4 := bl_trans HB4 hb
        refine hK.out _ _ ⟨BX4.cell 0, BX4.cell 1, BX4.cell 2, BX4.cell 3, BX4.cell 4, BX4.cell 5, BX4.cell 6, BX4.cell 7, BX4.cell 8, BY4.cell 0, BY4.cell 1, BY4.cell 2, BY4.cell 3, BY4.cell 4, BY4.cell 5, BY4.cell 6, BY4.cell 7, BY4.cell 8⟩ (fun hHeld => ?_)
        clear hK K hb
        refine norm_ (a' := ?_) ?_ ?_
        rotate_left
        · show Act.put _ (some 28) _ = _
          simp only [Act.put, List.setIfInBounds_toArray, List.set_cons_zero, List.set_cons_succ]
          rfl
        refine one_ (i := 12) (N := some 29) #[true, true, true, true, true, true, true, true, true, true, true, true, true, false] rfl rfl (by kernel_rfl) (by decide) (fun K hK => ?_)
        refine goes_ Try.func37 (by kernel_rfl) rfl #[.agg #[.int .i64 m0, .bool m1, .int .u64 m2, .int .i64 m3], .agg #[.int .i64 n0, .bool n1, .int .u64 n2, .int .i64 n3]] (by rfl) rfl rfl (by simp only [List.map_toArray, List.map_cons, List.map_nil] <;> rfl) ?_
        with_reducible refine (HMk.out _).mono ?_
        rintro e w8 ⟨rfl, hb⟩
        refine ⟨_, rfl, ?_⟩
        have BX4 := BX4.call hb
        have BY4 := BY4.call hb
        have BR4 := BR4.call hb
        have HB4 := bl_trans HB4 hb
        refine hK.out _ _ ⟨BX4.cell 0, BX4.cell 1, BX4.cell 2, BX4.cell 3, BX4.cell 4, BX4.cell 5, BX4.cell 6, BX4.cell 7, BX4.cell 8, BY4.cell 0, BY4.cell 1, BY4.cell 2, BY4.cell 3, BY4.cell 4, BY4.cell 5, BY4.cell 6, BY4.cell 7, BY4.cell 8⟩ (fun hHeld => ?_)
        clear hK K hb
        refine norm_ (a' := ?_) ?_ ?_
        rotate_left
        · show Act.put _ (some 29) _ = _
          simp only [Act.put, List.setIfInBounds_toArray, List.set_cons_zero, List.set_cons_succ]
          rfl
        obtain ⟨⟨q0, q1, q2, q3, q4, q5, q6, q7, q8⟩, ⟨f0, f1, f2, f3, f4, f5, f6, f7, f8⟩⟩ := BR4.c9
        obtain ⟨W9, hW9, B9, _, hL9, _⟩ := put9 BR4 (.bool r0) (.int .i64 r1) (.bool r2) (.int .u64 r3) (.int .i64 r4) (.int .i64 r5) (.bool r6) (.int .u64 r7) (.int .i64 r8)
        have HB9 := hL9 w HB4 (by omega)
        refine last_ (i := 13) (N := none) #[true, true, true, true, true, true, true, true, true, true, true, true, true, true] rfl rfl (by kernel_rfl) (by decide) (fun K hK => ?_)
        refine skip_ (w1 := ?_) (by rfl) rfl ?_ ?_
        rotate_left
        · go_simp
          rfl
        refine hK.out _ _ ?_
        clear hK K
        refine done_ (by kernel_rfl) ?_
        clear hHeld BX4 BY4 BR4 HB4
        go_wp2
        exact bodyPost_ret (results_cell_row rfl _ _ (w.heap.size + 1 + 1) 44 #[.bool r0, .int .i64 r1, .bool r2, .int .u64 r3, .int .i64 r4, .int .i64 r5, .bool r6, .int .u64 r7, .int .i64 r8] (0, 0) _ rfl B9 Try.underlying44 rfl (by kernel_rfl)) rfl ⟨rfl, HB9⟩
      · skip
        refine two_ (i := 4) (j := 10) (Ni := some 21) (Nj := some 27) #[true, true, true, true, true, false, true, true, true, true, false, false, false, false] #[true, true, true, true, false, false, true, true, true, true, true, false, false, false] rfl rfl rfl rfl (by kernel_rfl) (by decide) (by decide) (fun K hK => ?_) (fun K hK => ?_)
        · skip
          refine value_ (v := ?_) (w1 := ?_) (by rfl) rfl ?_ ?_
          rotate_left 2
          · go_simp
            first | rfl | (constructor <;> rfl)
          have BL := Blk.new w3 42 #[.int .i64 c1, .bool c2, .int .u64 c3, .int .i64 c4, .int .i64 d1, .bool d2, .int .u64 d3, .int .i64 d4]
          have BX4 := BX4.alloc (.cells #[.int .i64 c1, .bool c2, .int .u64 c3, .int .i64 c4, .int .i64 d1, .bool d2, .int .u64 d3, .int .i64 d4] 42)
          have BY4 := BY4.alloc (.cells #[.int .i64 c1, .bool c2, .int .u64 c3, .int .i64 c4, .int .i64 d1, .bool d2, .int .u64 d3, .int .i64 d4] 42)
          have BR4 := BR4.alloc (.cells #[.int .i64 c1, .bool c2, .int .u64 c3, .int .i64 c4, .int .i64 d1, .bool d2, .int .u64 d3, .int .i64 d4] 42)
          have HB4 := bl_alloc HB4 (.cells #[.int .i64 c1, .bool c2, .int .u64 c3, .int .i64 c4, .int .i64 d1, .bool d2, .int .u64 d3, .int .i64 d4] 42)
          refine hK.out _ _ ⟨BX4.cell 0, BX4.cell 1, BX4.cell 2, BX4.cell 3, BX4.cell 4, BX4.cell 5, BX4.cell 6, BX4.cell 7, BX4.cell 8, BY4.cell 0, BY4.cell 1, BY4.cell 2, BY4.cell 3, BY4.cell 4, BY4.cell 5, BY4.cell 6, BY4.cell 7, BY4.cell 8⟩ (fun hHeld => ?_)
          clear hK K
          refine norm_ (a' := ?_) ?_ ?_
          rotate_left
          · show Act.put _ (some 21) _ = _
            simp only [Act.put, List.setIfInBounds_toArray, List.set_cons_zero, List.set_cons_succ]
            rfl
          refine two_ (i := 5) (j := 10) (Ni := some 22) (Nj := some 27) #[true, true, true, true, true, true, true, true, true, true, false, false, false, false] #[true, true, true, true, true, false, true, true, true, true, true, false, false, false] rfl rfl rfl rfl (by kernel_rfl) (by decide) (by decide) (fun K hK => ?_) (fun K hK => ?_)
          · skip
            refine goes_ Try.func94 (by kernel_rfl) rfl #[.slice (some ⟨w3.heap.size, 0, none⟩) 2 2] (by rfl) rfl rfl (by simp only [List.map_toArray, List.map_cons, List.map_nil] <;> rfl) ?_
            with_reducible refine (HMo.out _ _ (SlN.lit2 (x := ⟨c1, c2, c3, c4⟩) (y := ⟨d1, d2, d3, d4⟩) BL BL.lt)).mono ?_
            rintro e w4 ⟨rfl, hb⟩
            refine ⟨_, rfl, ?_⟩
            have BX4 := BX4.call hb
            have BY4 := BY4.call hb
            have BR4 := BR4.call hb
            have HB4 := bl_trans HB4 hb
            refine hK.out _ _ ⟨BX4.cell 0, BX4.cell 1, BX4.cell 2, BX4.cell 3, BX4.cell 4, BX4.cell 5, BX4.cell 6, BX4.cell 7, BX4.cell 8, BY4.cell 0, BY4.cell 1, BY4.cell 2, BY4.cell 3, BY4.cell 4, BY4.cell 5, BY4.cell 6, BY4.cell 7, BY4.cell 8⟩ (fun hHeld => ?_)
            clear hK K hb
            refine norm_ (a' := ?_) ?_ ?_
            rotate_left
            · show Act.put _ (some 22) _ = _
              simp only [Act.put, List.setIfInBounds_toArray, List.set_cons_zero, List.set_cons_succ]
              rfl
            refine one_ (i := 10) (N := some 27) #[true, true, true, true, true, true, true, true, true, true, true, false, false, false] rfl rfl (by kernel_rfl) (by decide) (fun K hK => ?_)
            refine value_ (v := ?_) (w1 := ?_) (by rfl) rfl ?_ ?_
            rotate_left 2
            · go_simp
              first | rfl | (constructor <;> rfl)
            have BL2 := Blk.new w4 42 #[.int .i64 c5, .bool c6, .int .u64 c7, .int .i64 c8, .int .i64 d5, .bool d6, .int .u64 d7, .int .i64 d8]
            have BX4 := BX4.alloc (.cells #[.int .i64 c5, .bool c6, .int .u64 c7, .int .i64 c8, .int .i64 d5, .bool d6, .int .u64 d7, .int .i64 d8] 42)
            have BY4 := BY4.alloc (.cells #[.int .i64 c5, .bool c6, .int .u64 c7, .int .i64 c8, .int .i64 d5, .bool d6, .int .u64 d7, .int .i64 d8] 42)
            have BR4 := BR4.alloc (.cells #[.int .i64 c5, .bool c6, .int .u64 c7, .int .i64 c8, .int .i64 d5, .bool d6, .int .u64 d7, .int .i64 d8] 42)
            have HB4 := bl_alloc HB4 (.cells #[.int .i64 c5, .bool c6, .int .u64 c7, .int .i64 c8, .int .i64 d5, .bool d6, .int .u64 d7, .int .i64 d8] 42)
            refine hK.out _ _ ⟨BX4.cell 0, BX4.cell 1, BX4.cell 2, BX4.cell 3, BX4.cell 4, BX4.cell 5, BX4.cell 6, BX4.cell 7, BX4.cell 8, BY4.cell 0, BY4.cell 1, BY4.cell 2, BY4.cell 3, BY4.cell 4, BY4.cell 5, BY4.cell 6, BY4.cell 7, BY4.cell 8⟩ (fun hHeld => ?_)
            exact norm_ (by rfl) (hJ (w3.heap.size, w4.heap.size) _ ⟨BX4, BY4, BR4, HB4, (SlN.lit2 (x := ⟨c5, c6, c7, c8⟩) (y := ⟨d5, d6, d7, d8⟩) BL2 BL2.lt)⟩)
          · skip
            refine value_ (v := ?_) (w1 := ?_) (by rfl) rfl ?_ ?_
            rotate_left 2
            · go_simp
              first | rfl | (constructor <;> rfl)
            have BL2 := Blk.new1 w3 (.cells #[.int .i64 c1, .bool c2, .int .u64 c3, .int .i64 c4, .int .i64 d1, .bool d2, .int .u64 d3, .int .i64 d4] 42) 42 #[.int .i64 c5, .bool c6, .int .u64 c7, .int .i64 c8, .int .i64 d5, .bool d6, .int .u64 d7, .int .i64 d8]
            have BL := BL.alloc (.cells #[.int .i64 c5, .bool c6, .int .u64 c7, .int .i64 c8, .int .i64 d5, .bool d6, .int .u64 d7, .int .i64 d8] 42)
            have BX4 := BX4.alloc (.cells #[.int .i64 c5, .bool c6, .int .u64 c7, .int .i64 c8, .int .i64 d5, .bool d6, .int .u64 d7, .int .i64 d8] 42)
            have BY4 := BY4.alloc (.cells #[.int .i64 c5, .bool c6, .int .u64 c7, .int .i64 c8, .int .i64 d5, .bool d6, .int .u64 d7, .int .i64 d8] 42)
            have BR4 := BR4.alloc (.cells #[.int .i64 c5, .bool c6, .int .u64 c7, .int .i64 c8, .int .i64 d5, .bool d6, .int .u64 d7, .int .i64 d8] 42)
            have HB4 := bl_alloc HB4 (.cells #[.int .i64 c5, .bool c6, .int .u64 c7, .int .i64 c8, .int .i64 d5, .bool d6, .int .u64 d7, .int .i64 d8] 42)
            refine hK.out _ _ ⟨BX4.cell 0, BX4.cell 1, BX4.cell 2, BX4.cell 3, BX4.cell 4, BX4.cell 5, BX4.cell 6, BX4.cell 7, BX4.cell 8, BY4.cell 0, BY4.cell 1, BY4.cell 2, BY4.cell 3, BY4.cell 4, BY4.cell 5, BY4.cell 6, BY4.cell 7, BY4.cell 8⟩ (fun hHeld => ?_)
            clear hK K
            refine norm_ (a' := ?_) ?_ ?_
            rotate_left
            · show Act.put _ (some 27) _ = _
              simp only [Act.put, List.setIfInBounds_toArray, List.set_cons_zero, List.set_cons_succ]
              rfl
            refine one_ (i := 5) (N := some 22) #[true, true, true, true, true, true, true, true, true, true, true, false, false, false] rfl rfl (by kernel_rfl) (by decide) (fun K hK => ?_)
            refine goes_ Try.func94 (by kernel_rfl) rfl #[.slice (some ⟨w3.heap.size, 0, none⟩) 2 2] (by rfl) rfl rfl (by simp only [List.map_toArray, List.map_cons, List.map_nil] <;> rfl) ?_
            with_reducible refine (HMo.out _ _ (SlN.lit2 (x := ⟨c1, c2, c3, c4⟩) (y := ⟨d1, d2, d3, d4⟩) BL BL.lt)).mono ?_
            rintro e w4 ⟨rfl, hb⟩
            refine ⟨_, rfl, ?_⟩
            have BX4 := BX4.call hb
            have BY4 := BY4.call hb
            have BR4 := BR4.call hb
            have HB4 := bl_trans HB4 hb
            have BL2 := BL2.call hb
            refine hK.out _ _ ⟨BX4.cell 0, BX4.cell 1, BX4.cell 2, BX4.cell 3, BX4.cell 4, BX4.cell 5, BX4.cell 6, BX4.cell 7, BX4.cell 8, BY4.cell 0, BY4.cell 1, BY4.cell 2, BY4.cell 3, BY4.cell 4, BY4.cell 5, BY4.cell 6, BY4.cell 7, BY4.cell 8⟩ (fun hHeld => ?_)
            exact norm_ (by rfl) (hJ (w3.heap.size, w3.heap.size + 1) _ ⟨BX4, BY4, BR4, HB4, (SlN.lit2 (x := ⟨c5, c6, c7, c8⟩) (y := ⟨d5, d6, d7, d8⟩) BL2 BL2.lt)⟩)
        · skip
          refine value_ (v := ?_) (w1 := ?_) (by rfl) rfl ?_ ?_
          rotate_left 2
          · go_simp
            first | rfl | (constructor <;> rfl)
          have BL2 := Blk.new w3 42 #[.int .i64 c5, .bool c6, .int .u64 c7, .int .i64 c8, .int .i64 d5, .bool d6, .int .u64 d7, .int .i64 d8]
          have BX4 := BX4.alloc (.cells #[.int .i64 c5, .bool c6, .int .u64 c7, .int .i64 c8, .int .i64 d5, .bool d6, .int .u64 d7, .int .i64 d8] 42)
          have BY4 := BY4.alloc (.cells #[.int .i64 c5, .bool c6, .int .u64 c7, .int .i64 c8, .int .i64 d5, .bool d6, .int .u64 d7, .int .i64 d8] 42)
          have BR4 := BR4.alloc (.cells #[.int .i64 c5, .bool c6, .int .u64 c7, .int .i64 c8, .int .i64 d5, .bool d6, .int .u64 d7, .int .i64 d8] 42)
          have HB4 := bl_alloc HB4 (.cells #[.int .i64 c5, .bool c6, .int .u64 c7, .int .i64 c8, .int .i64 d5, .bool d6, .int .u64 d7, .int .i64 d8] 42)
          refine hK.out _ _ ⟨BX4.cell 0, BX4.cell 1, BX4.cell 2, BX4.cell 3, BX4.cell 4, BX4.cell 5, BX4.cell 6, BX4.cell 7, BX4.cell 8, BY4.cell 0, BY4.cell 1, BY4.cell 2, BY4.cell 3, BY4.cell 4, BY4.cell 5, BY4.cell 6, BY4.cell 7, BY4.cell 8⟩ (fun hHeld => ?_)
          clear hK K
          refine norm_ (a' := ?_) ?_ ?_
          rotate_left
          · show Act.put _ (some 27) _ = _
            simp only [Act.put, List.setIfInBounds_toArray, List.set_cons_zero, List.set_cons_succ]
            rfl
          refine one_ (i := 4) (N := some 21) #[true, true, true, true, true, false, true, true, true, true, true, false, false, false] rfl rfl (by kernel_rfl) (by decide) (fun K hK => ?_)
          refine value_ (v := ?_) (w1 := ?_) (by rfl) rfl ?_ ?_
          rotate_left 2
          · go_simp
            first | rfl | (constructor <;> rfl)
          have BL := Blk.new1 w3 (.cells #[.int .i64 c5, .bool c6, .int .u64 c7, .int .i64 c8, .int .i64 d5, .bool d6, .int .u64 d7, .int .i64 d8] 42) 42 #[.int .i64 c1, .bool c2, .int .u64 c3, .int .i64 c4, .int .i64 d1, .bool d2, .int .u64 d3, .int .i64 d4]
          have BL2 := BL2.alloc (.cells #[.int .i64 c1, .bool c2, .int .u64 c3, .int .i64 c4, .int .i64 d1, .bool d2, .int .u64 d3, .int .i64 d4] 42)
          have BX4 := BX4.alloc (.cells #[.int .i64 c1, .bool c2, .int .u64 c3, .int .i64 c4, .int .i64 d1, .bool d2, .int .u64 d3, .int .i64 d4] 42)
          have BY4 := BY4.alloc (.cells #[.int .i64 c1, .bool c2, .int .u64 c3, .int .i64 c4, .int .i64 d1, .bool d2, .int .u64 d3, .int .i64 d4] 42)
          have BR4 := BR4.alloc (.cells #[.int .i64 c1, .bool c2, .int .u64 c3, .int .i64 c4, .int .i64 d1, .bool d2, .int .u64 d3, .int .i64 d4] 42)
          have HB4 := bl_alloc HB4 (.cells #[.int .i64 c1, .bool c2, .int .u64 c3, .int .i64 c4, .int .i64 d1, .bool d2, .int .u64 d3, .int .i64 d4] 42)
          refine hK.out _ _ ⟨BX4.cell 0, BX4.cell 1, BX4.cell 2, BX4.cell 3, BX4.cell 4, BX4.cell 5, BX4.cell 6, BX4.cell 7, BX4.cell 8, BY4.cell 0, BY4.cell 1, BY4.cell 2, BY4.cell 3, BY4.cell 4, BY4.cell 5, BY4.cell 6, BY4.cell 7, BY4.cell 8⟩ (fun hHeld => ?_)
          clear hK K
          refine norm_ (a' := ?_) ?_ ?_
          rotate_left
          · show Act.put _ (some 21) _ = _
            simp only [Act.put, List.setIfInBounds_toArray, List.set_cons_zero, List.set_cons_succ]
            rfl
          refine one_ (i := 5) (N := some 22) #[true, true, true, true, true, true, true, true, true, true, true, false, false, false] rfl rfl (by kernel_rfl) (by decide) (fun K hK => ?_)
          refine goes_ Try.func94 (by kernel_rfl) rfl #[.slice (some ⟨w3.heap.size + 1, 0, none⟩) 2 2] (by rfl) rfl rfl (by simp only [List.map_toArray, List.map_cons, List.map_nil] <;> rfl) ?_
          with_reducible refine (HMo.out _ _ (SlN.lit2 (x := ⟨c1, c2, c3, c4⟩) (y := ⟨d1, d2, d3, d4⟩) BL BL.lt)).mono ?_
          rintro e w4 ⟨rfl, hb⟩
          refine ⟨_, rfl, ?_⟩
          have BX4 := BX4.call hb
          have BY4 := BY4.call hb
          have BR4 := BR4.call hb
          have HB4 := bl_trans HB4 hb
          have BL2 := BL2.call hb
          refine hK.out _ _ ⟨BX4.cell 0, BX4.cell 1, BX4.cell 2, BX4.cell 3, BX4.cell 4, BX4.cell 5, BX4.cell 6, BX4.cell 7, BX4.cell 8, BY4.cell 0, BY4.cell 1, BY4.cell 2, BY4.cell 3, BY4.cell 4, BY4.cell 5, BY4.cell 6, BY4.cell 7, BY4.cell 8⟩ (fun hHeld => ?_)
          exact norm_ (by rfl) (hJ (w3.heap.size + 1, w3.heap.size) _ ⟨BX4, BY4, BR4, HB4, (SlN.lit2 (x := ⟨c5, c6, c7, c8⟩) (y := ⟨d5, d6, d7, d8⟩) BL2 BL2.lt)⟩)
    · skip
      obtain ⟨⟨p0, p1, p2, p3, p4, p5, p6, p7, p8⟩, _⟩ := BX4.c9
      obtain ⟨⟨r0', r1', r2', r3', r4', r5', r6', r7', r8'⟩, _⟩ := BY4.c9
      obtain ⟨⟨q0, q1, q2, q3, q4, q5, q6, q7, q8⟩, ⟨f0, f1, f2, f3, f4, f5, f6, f7, f8⟩⟩ := BR4.c9
      obtain ⟨W9, hW9, B9, _, hL9, _⟩ := put9 BR4 (.bool false) (.int .i64 c1) (.bool c2) (.int .u64 c3) (.int .i64 c4) (.int .i64 c5) (.bool c6) (.int .u64 c7) (.int .i64 c8)
      have HB9 := hL9 w HB4 (by omega)
      go_wp2
      exact bodyPost_ret (results_cell_row rfl _ _ (w.heap.size + 1 + 1) 44 #[.bool false, .int .i64 c1, .bool c2, .int .u64 c3, .int .i64 c4, .int .i64 c5, .bool c6, .int .u64 c7, .int .i64 c8] (0, 0) _ rfl B9 Try.underlying44 rfl (by kernel_rfl)) rfl ⟨rfl, HB9⟩
  · skip
    obtain ⟨⟨p0, p1, p2, p3, p4, p5, p6, p7, p8⟩, _⟩ := BX4.c9
    obtain ⟨⟨r0', r1', r2', r3', r4', r5', r6', r7', r8'⟩, _⟩ := BY4.c9
    obtain ⟨⟨q0, q1, q2, q3, q4, q5, q6, q7, q8⟩, ⟨f0, f1, f2, f3, f4, f5, f6, f7, f8⟩⟩ := BR4.c9
    obtain ⟨W9, hW9, B9, _, hL9, _⟩ := put9 BR4 (.bool d0) (.int .i64 d1) (.bool d2) (.int .u64 d3) (.int .i64 d4) (.int .i64 d5) (.bool d6) (.int .u64 d7) (.int .i64 d8)
    have HB9 := hL9 w HB4 (by omega)
    go_wp2
    exact bodyPost_ret (results_cell_row rfl _ _ (w.heap.size + 1 + 1) 44 #[.bool d0, .int .i64 d1, .bool d2, .int .u64 d3, .int .i64 d4, .int .i64 d5, .bool d6, .int .u64 d7, .int .i64 d8] (0, 0) _ rfl B9 Try.underlying44 rfl (by kernel_rfl)) rfl ⟨rfl, HB9⟩

end Go.Proofs.Ytakajahogjeiaaa.Wk
