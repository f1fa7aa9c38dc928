/- Walks: the reference's Meet and Hull, for every slice of intervals. -/
import Derived.Test.YtakajahogjeiaaaRefM
namespace Go.Proofs.Ytakajahogjeiaaa.Wk
open Go.RowKit Go.Proofs.Pl Go.Proofs.YtakajahogjeiaaaW.PrintLast
set_option linter.unusedSimpArgs false
set_option linter.unusedVariables false

set_option maxRecDepth 100000 in
set_option maxHeartbeats 8000000 in
theorem r8meet_calls (A : Option Addr) (n c : Nat) (xs : List Iv) (w : World) (hs : SlI w w.heap.size A n xs) (hn : n ≤ 2199023255552) :
    Calls Try.prog 31 #[.slice A n c] w fun e w' => e = .returned (.agg #[.bool (foldTwo xs).emp, .int .i64 ((foldTwo xs).lo).k, .bool ((foldTwo xs).lo).n, .int .u64 ((foldTwo xs).lo).m, .int .i64 ((foldTwo xs).lo).e, .int .i64 ((foldTwo xs).hi).k, .bool ((foldTwo xs).hi).n, .int .u64 ((foldTwo xs).hi).m, .int .i64 ((foldTwo xs).hi).e]) ∧ Below w.heap.size w w' := by
  go_enter Try.func31, Try.ntmps31
  go_wp2_with (go_at_call 46; refine (r8all_lit _).mono ?_; rintro e w1 ⟨rfl, hb⟩; have BR1 := (Blk.new w _ _).call hb; have HB1 := bl_trans (bl_alloc (Below.refl w.heap.size w) _) hb; have hz : w.heap.size < w1.heap.size := (by have := hb.size; simp at this; omega); clear hb)
  have BO0 := Blk.new w1 44 #[.bool false, .int .i64 2, .bool true, .int .u64 0, .int .i64 0, .int .i64 2, .bool false, .int .u64 0, .int .i64 0]
  have BR0 := BR1.alloc (.cells #[.bool false, .int .i64 2, .bool true, .int .u64 0, .int .i64 0, .int .i64 2, .bool false, .int .u64 0, .int .i64 0] 44)
  have HB0 := bl_alloc HB1 (.cells #[.bool false, .int .i64 2, .bool true, .int .u64 0, .int .i64 0, .int .i64 2, .bool false, .int .u64 0, .int .i64 0] 44)
  clear HB1 BR1
  generalize (w1.alloc (.cells #[.bool false, .int .i64 2, .bool true, .int .u64 0, .int .i64 0, .int .i64 2, .bool false, .int .u64 0, .int .i64 0] 44)) = W1 at BO0 BR0 HB0 ⊢
  generalize w1.heap.size = OB at BO0 hz ⊢
  go_loopw [4] (fun i wr => ∃ k : Nat, k ≤ n ∧ i = .int .i64 k ∧ ∃ o0 o1 o2 o3 o4 o5 o6 o7 o8, (⟨o0, ⟨o1, o2, o3, o4⟩, ⟨o5, o6, o7, o8⟩⟩ : Iv) = (xs.take k).foldl twoI allI ∧ Blk wr OB 44 #[.bool o0, .int .i64 o1, .bool o2, .int .u64 o3, .int .i64 o4, .int .i64 o5, .bool o6, .int .u64 o7, .int .i64 o8] ∧ Blk wr w.heap.size 44 #[.bool false, .int .i64 0, .bool false, .int .u64 0, .int .i64 0, .int .i64 0, .bool false, .int .u64 0, .int .i64 0] ∧ Below w.heap.size w wr) (fun i _ => n - (intOf i).toNat)
  case atStart => exact ⟨0, Nat.zero_le _, rfl, _, _, _, _, _, _, _, _, _, rfl, BO0, BR0, HB0⟩
  case round =>
    obtain ⟨k, hk, rfl, o0, o1, o2, o3, o4, o5, o6, o7, o8, ho, BO, BR, HB⟩ := hrel
    have Ho := Lib.hid ho
    clear ho BO0 BR0 HB0
    by_cases hlt : k < n
    · obtain ⟨b, off, ⟨x0, ⟨x1, x2, x3, x4⟩, ⟨x5, x6, x7, x8⟩⟩, rfl, hbB, hx, e0, e1, e2, e3, e4, e5, e6, e7, e8⟩ := (hs.below HB).at_ hlt
      have hst : (xs.take (k + 1)).foldl twoI allI = twoI ⟨o0, ⟨o1, o2, o3, o4⟩, ⟨o5, o6, o7, o8⟩⟩ ⟨x0, ⟨x1, x2, x3, x4⟩, ⟨x5, x6, x7, x8⟩⟩ := by
        rw [foldl_take_succ _ _ xs k _ hx, ← Ho.out]
      have Hs := Lib.hid hst
      clear hst hx
      have hbW : b < wr.heap.size := Nat.lt_of_lt_of_le hbB HB.size
      have HC := Lib.hid (fun W => r8two_calls o0 o1 o2 o3 o4 o5 o6 o7 o8 x0 x1 x2 x3 x4 x5 x6 x7 x8 W)
      generalize twoI ⟨o0, ⟨o1, o2, o3, o4⟩, ⟨o5, o6, o7, o8⟩⟩ ⟨x0, ⟨x1, x2, x3, x4⟩, ⟨x5, x6, x7, x8⟩⟩ = f at HC Hs
      obtain ⟨f0, ⟨f1, f2, f3, f4⟩, ⟨f5, f6, f7, f8⟩⟩ := f
      dsimp only at HC
      go_wp2_with fail
      replace BO := BO.drew
      replace BR := BR.drew
      replace HB := bl_drew HB
      replace e0 : wr.drew.cell? _ = _ := e0
      replace e1 : wr.drew.cell? _ = _ := e1
      replace e2 : wr.drew.cell? _ = _ := e2
      replace e3 : wr.drew.cell? _ = _ := e3
      replace e4 : wr.drew.cell? _ = _ := e4
      replace e5 : wr.drew.cell? _ = _ := e5
      replace e6 : wr.drew.cell? _ = _ := e6
      replace e7 : wr.drew.cell? _ = _ := e7
      replace e8 : wr.drew.cell? _ = _ := e8
      refine start_ (n := 7) (S := fun w' => w'.cell? ⟨OB, 0, none⟩ = some (.bool o0) ∧ w'.cell? ⟨OB, 1, none⟩ = some (.int .i64 o1) ∧ w'.cell? ⟨OB, 2, none⟩ = some (.bool o2) ∧ w'.cell? ⟨OB, 3, none⟩ = some (.int .u64 o3) ∧ w'.cell? ⟨OB, 4, none⟩ = some (.int .i64 o4) ∧ w'.cell? ⟨OB, 5, none⟩ = some (.int .i64 o5) ∧ w'.cell? ⟨OB, 6, none⟩ = some (.bool o6) ∧ w'.cell? ⟨OB, 7, none⟩ = some (.int .u64 o7) ∧ w'.cell? ⟨OB, 8, none⟩ = some (.int .i64 o8) ∧ w'.cell? ⟨b, off + k * 9, none⟩ = some (.bool x0) ∧ w'.cell? ⟨b, off + k * 9 + 1, none⟩ = some (.int .i64 x1) ∧ w'.cell? ⟨b, off + k * 9 + 2, none⟩ = some (.bool x2) ∧ w'.cell? ⟨b, off + k * 9 + 3, none⟩ = some (.int .u64 x3) ∧ w'.cell? ⟨b, off + k * 9 + 4, none⟩ = some (.int .i64 x4) ∧ w'.cell? ⟨b, off + k * 9 + 5, none⟩ = some (.int .i64 x5) ∧ w'.cell? ⟨b, off + k * 9 + 6, none⟩ = some (.bool x6) ∧ w'.cell? ⟨b, off + k * 9 + 7, none⟩ = some (.int .u64 x7) ∧ w'.cell? ⟨b, off + k * 9 + 8, none⟩ = some (.int .i64 x8)) (ds := [6]) #[false, false, false, false, false, false, false] (by kernel_rfl) rfl rfl ⟨BO.cell 0, BO.cell 1, BO.cell 2, BO.cell 3, BO.cell 4, BO.cell 5, BO.cell 6, BO.cell 7, BO.cell 8, e0, e1, e2, e3, e4, e5, e6, e7, e8⟩ (fun hHeld => ?_)
      generalize hWW : World.drew _ = W5 at BO BR HB e0 e1 e2 e3 e4 e5 e6 e7 e8 hHeld ⊢
      clear hWW
      refine take_ (i := 0) (N := some 12) (v := ?_) (a' := ?_) #[true, false, false, false, false, false, false] rfl rfl (by kernel_rfl) (fun _ _ _ h => h) (Or.inl ⟨by rfl, ?_⟩) hHeld ?_ ?_
      rotate_left
      · rintro w' ⟨s0_, s1_, s2_, s3_, s4_, s5_, s6_, s7_, s8_, s9_, s10_, s11_, s12_, s13_, s14_, s15_, s16_, s17_⟩
        go_simp
        with_reducible rfl
      rotate_left
      · simp only [Act.put, List.setIfInBounds_toArray, List.set_cons_zero, List.set_cons_succ]
        rfl
      refine pure_ (i := 1) (N := some 13) (v := ?_) (a' := ?_) #[true, true, false, false, false, false, false] rfl rfl (by kernel_rfl) (fun _ _ _ h => h) (Or.inl ⟨by rfl, ?_⟩) ?_ ?_
      rotate_left
      · intro w'
        go_simp
        with_reducible rfl
      rotate_left
      · simp only [Act.put, List.setIfInBounds_toArray, List.set_cons_zero, List.set_cons_succ]
        rfl
      refine pure_ (i := 2) (N := some 14) (v := ?_) (a' := ?_) #[true, true, true, false, false, false, false] rfl rfl (by kernel_rfl) (fun _ _ _ h => h) (Or.inl ⟨by rfl, ?_⟩) ?_ ?_
      rotate_left
      · intro w'
        go_simp
        with_reducible rfl
      rotate_left
      · simp only [Act.put, List.setIfInBounds_toArray, List.set_cons_zero, List.set_cons_succ]
        rfl
      refine pure_ (i := 3) (N := some 15) (v := ?_) (a' := ?_) #[true, true, true, true, false, false, false] rfl rfl (by kernel_rfl) (fun _ _ _ h => h) (Or.inl ⟨by rfl, ?_⟩) ?_ ?_
      rotate_left
      · intro w'
        go_simp
        with_reducible rfl
      rotate_left
      · simp only [Act.put, List.setIfInBounds_toArray, List.set_cons_zero, List.set_cons_succ]
        rfl
      refine take_ (i := 4) (N := some 16) (v := ?_) (a' := ?_) #[true, true, true, true, true, false, false] rfl rfl (by kernel_rfl) (fun _ _ _ h => h) (Or.inl ⟨by rfl, ?_⟩) hHeld ?_ ?_
      rotate_left
      · rintro w' ⟨s0_, s1_, s2_, s3_, s4_, s5_, s6_, s7_, s8_, s9_, s10_, s11_, s12_, s13_, s14_, s15_, s16_, s17_⟩
        go_simp
        with_reducible rfl
      rotate_left
      · simp only [Act.put, List.setIfInBounds_toArray, List.set_cons_zero, List.set_cons_succ]
        rfl
      refine one_ (i := 5) (N := some 17) #[true, true, true, true, true, true, false] rfl rfl (by kernel_rfl) (by decide) (fun K hK => ?_)
      refine goes_ Try.func69 (by kernel_rfl) rfl #[.agg #[.bool o0, .int .i64 o1, .bool o2, .int .u64 o3, .int .i64 o4, .int .i64 o5, .bool o6, .int .u64 o7, .int .i64 o8], .agg #[.bool x0, .int .i64 x1, .bool x2, .int .u64 x3, .int .i64 x4, .int .i64 x5, .bool x6, .int .u64 x7, .int .i64 x8]] (by rfl) rfl rfl (by simp only [List.map_toArray, List.map_cons, List.map_nil] <;> rfl) ?_
      with_reducible refine (HC.out _).mono ?_
      rintro e w2 ⟨rfl, hb⟩
      refine ⟨_, rfl, ?_⟩
      have BO := BO.call hb
      have BR := BR.call hb
      have hbW' : b < W5.heap.size := Nat.lt_of_lt_of_le hbB HB.size
      replace e0 := (hb.cell (p := ⟨b, off + k * 9, none⟩) hbW').trans e0
      replace e1 := (hb.cell (p := ⟨b, off + k * 9 + 1, none⟩) hbW').trans e1
      replace e2 := (hb.cell (p := ⟨b, off + k * 9 + 2, none⟩) hbW').trans e2
      replace e3 := (hb.cell (p := ⟨b, off + k * 9 + 3, none⟩) hbW').trans e3
      replace e4 := (hb.cell (p := ⟨b, off + k * 9 + 4, none⟩) hbW').trans e4
      replace e5 := (hb.cell (p := ⟨b, off + k * 9 + 5, none⟩) hbW').trans e5
      replace e6 := (hb.cell (p := ⟨b, off + k * 9 + 6, none⟩) hbW').trans e6
      replace e7 := (hb.cell (p := ⟨b, off + k * 9 + 7, none⟩) hbW').trans e7
      replace e8 := (hb.cell (p := ⟨b, off + k * 9 + 8, none⟩) hbW').trans e8
      have HB := bl_trans HB hb
      refine hK.out _ _ ⟨BO.cell 0, BO.cell 1, BO.cell 2, BO.cell 3, BO.cell 4, BO.cell 5, BO.cell 6, BO.cell 7, BO.cell 8, e0, e1, e2, e3, e4, e5, e6, e7, e8⟩ (fun hHeld => ?_)
      clear hK K hb
      refine norm_ (a' := ?_) ?_ ?_
      rotate_left
      · show Act.put _ (some 17) _ = _
        simp only [Act.put, List.setIfInBounds_toArray, List.set_cons_zero, List.set_cons_succ]
        rfl
      obtain ⟨⟨p0, p1, p2, p3, p4, p5, p6, p7, p8⟩, ⟨g0, g1, g2, g3, g4, g5, g6, g7, g8⟩⟩ := BO.c9
      obtain ⟨W4, hW4, BO4, hK, hL, _⟩ := put9 BO (.bool f0) (.int .i64 f1) (.bool f2) (.int .u64 f3) (.int .i64 f4) (.int .i64 f5) (.bool f6) (.int .u64 f7) (.int .i64 f8)
      have BR4 := hK _ _ _ (Nat.ne_of_lt hz) BR
      have HB4 := hL w HB (Nat.le_of_lt hz)
      refine last_ (i := 6) (N := none) #[true, true, true, true, true, true, true] rfl rfl (by kernel_rfl) (by decide) (fun K hK => ?_)
      refine skip_ (w1 := ?_) (by rfl) rfl ?_ ?_
      rotate_left
      · go_simp
        rfl
      refine hK.out _ _ ?_
      clear hK K
      refine done_ (by kernel_rfl) ?_
      clear hHeld
      go_wp2
      go_roundw
      case rel => exact ⟨k + 1, by omega, by go_num, f0, f1, f2, f3, f4, f5, f6, f7, f8, by rw [Hs.out], BO4, BR4, HB4⟩
      case measure => simp [intOf]; omega
    · have hkn : k = n := by omega
      have Hf : Hid ((⟨o0, ⟨o1, o2, o3, o4⟩, ⟨o5, o6, o7, o8⟩⟩ : Iv) = foldTwo xs) := by
        have h1 := Ho.out
        rw [List.take_of_length_le (by have := hs.1; omega)] at h1
        exact h1
      clear Ho hkn
      have hlt' : n ≤ k := by omega
      obtain ⟨W4, hW4, BR4, _, hL, _⟩ := put9 BR (.bool o0) (.int .i64 o1) (.bool o2) (.int .u64 o3) (.int .i64 o4) (.int .i64 o5) (.bool o6) (.int .u64 o7) (.int .i64 o8)
      have HB4 := hL w HB (Nat.le_refl _)
      obtain ⟨⟨q0, q1, q2, q3, q4, q5, q6, q7, q8⟩, _⟩ := BO.c9
      obtain ⟨⟨p0, p1, p2, p3, p4, p5, p6, p7, p8⟩, ⟨g0, g1, g2, g3, g4, g5, g6, g7, g8⟩⟩ := BR.c9
      go_wp2
      refine bodyPost_ret (results_cell_row rfl _ _ w.heap.size 44 #[.bool o0, .int .i64 o1, .bool o2, .int .u64 o3, .int .i64 o4, .int .i64 o5, .bool o6, .int .u64 o7, .int .i64 o8] (0, 0) _ rfl BR4 Try.underlying44 rfl (by kernel_rfl)) rfl ⟨?_, HB4⟩
      rw [← Hf.out]

set_option maxRecDepth 100000 in
set_option maxHeartbeats 8000000 in
theorem r8hull_calls (A : Option Addr) (n c : Nat) (xs : List Iv) (w : World) (hs : SlI w w.heap.size A n xs) (hn : n ≤ 2199023255552) :
    Calls Try.prog 32 #[.slice A n c] w fun e w' => e = .returned (.agg #[.bool (foldBoth xs).emp, .int .i64 ((foldBoth xs).lo).k, .bool ((foldBoth xs).lo).n, .int .u64 ((foldBoth xs).lo).m, .int .i64 ((foldBoth xs).lo).e, .int .i64 ((foldBoth xs).hi).k, .bool ((foldBoth xs).hi).n, .int .u64 ((foldBoth xs).hi).m, .int .i64 ((foldBoth xs).hi).e]) ∧ Below w.heap.size w w' := by
  go_enter Try.func32, Try.ntmps32
  go_wp2_with (go_at_call 44; refine (r8none_lit _).mono ?_; rintro e w1 ⟨rfl, hb⟩; have BR1 := (Blk.new w _ _).call hb; have HB1 := bl_trans (bl_alloc (Below.refl w.heap.size w) _) hb; have hz : w.heap.size < w1.heap.size := (by have := hb.size; simp at this; omega); clear hb)
  have BO0 := Blk.new w1 44 #[.bool true, .int .i64 0, .bool false, .int .u64 0, .int .i64 0, .int .i64 0, .bool false, .int .u64 0, .int .i64 0]
  have BR0 := BR1.alloc (.cells #[.bool true, .int .i64 0, .bool false, .int .u64 0, .int .i64 0, .int .i64 0, .bool false, .int .u64 0, .int .i64 0] 44)
  have HB0 := bl_alloc HB1 (.cells #[.bool true, .int .i64 0, .bool false, .int .u64 0, .int .i64 0, .int .i64 0, .bool false, .int .u64 0, .int .i64 0] 44)
  clear HB1 BR1
  generalize (w1.alloc (.cells #[.bool true, .int .i64 0, .bool false, .int .u64 0, .int .i64 0, .int .i64 0, .bool false, .int .u64 0, .int .i64 0] 44)) = W1 at BO0 BR0 HB0 ⊢
  generalize w1.heap.size = OB at BO0 hz ⊢
  go_loopw [4] (fun i wr => ∃ k : Nat, k ≤ n ∧ i = .int .i64 k ∧ ∃ o0 o1 o2 o3 o4 o5 o6 o7 o8, (⟨o0, ⟨o1, o2, o3, o4⟩, ⟨o5, o6, o7, o8⟩⟩ : Iv) = (xs.take k).foldl bothI noneI ∧ Blk wr OB 44 #[.bool o0, .int .i64 o1, .bool o2, .int .u64 o3, .int .i64 o4, .int .i64 o5, .bool o6, .int .u64 o7, .int .i64 o8] ∧ Blk wr w.heap.size 44 #[.bool false, .int .i64 0, .bool false, .int .u64 0, .int .i64 0, .int .i64 0, .bool false, .int .u64 0, .int .i64 0] ∧ Below w.heap.size w wr) (fun i _ => n - (intOf i).toNat)
  case atStart => exact ⟨0, Nat.zero_le _, rfl, _, _, _, _, _, _, _, _, _, rfl, BO0, BR0, HB0⟩
  case round =>
    obtain ⟨k, hk, rfl, o0, o1, o2, o3, o4, o5, o6, o7, o8, ho, BO, BR, HB⟩ := hrel
    have Ho := Lib.hid ho
    clear ho BO0 BR0 HB0
    by_cases hlt : k < n
    · obtain ⟨b, off, ⟨x0, ⟨x1, x2, x3, x4⟩, ⟨x5, x6, x7, x8⟩⟩, rfl, hbB, hx, e0, e1, e2, e3, e4, e5, e6, e7, e8⟩ := (hs.below HB).at_ hlt
      have hst : (xs.take (k + 1)).foldl bothI noneI = bothI ⟨o0, ⟨o1, o2, o3, o4⟩, ⟨o5, o6, o7, o8⟩⟩ ⟨x0, ⟨x1, x2, x3, x4⟩, ⟨x5, x6, x7, x8⟩⟩ := by
        rw [foldl_take_succ _ _ xs k _ hx, ← Ho.out]
      have Hs := Lib.hid hst
      clear hst hx
      have hbW : b < wr.heap.size := Nat.lt_of_lt_of_le hbB HB.size
      have HC := Lib.hid (fun W => r8both_calls o0 o1 o2 o3 o4 o5 o6 o7 o8 x0 x1 x2 x3 x4 x5 x6 x7 x8 W)
      generalize bothI ⟨o0, ⟨o1, o2, o3, o4⟩, ⟨o5, o6, o7, o8⟩⟩ ⟨x0, ⟨x1, x2, x3, x4⟩, ⟨x5, x6, x7, x8⟩⟩ = f at HC Hs
      obtain ⟨f0, ⟨f1, f2, f3, f4⟩, ⟨f5, f6, f7, f8⟩⟩ := f
      dsimp only at HC
      go_wp2_with fail
      replace BO := BO.drew
      replace BR := BR.drew
      replace HB := bl_drew HB
      replace e0 : wr.drew.cell? _ = _ := e0
      replace e1 : wr.drew.cell? _ = _ := e1
      replace e2 : wr.drew.cell? _ = _ := e2
      replace e3 : wr.drew.cell? _ = _ := e3
      replace e4 : wr.drew.cell? _ = _ := e4
      replace e5 : wr.drew.cell? _ = _ := e5
      replace e6 : wr.drew.cell? _ = _ := e6
      replace e7 : wr.drew.cell? _ = _ := e7
      replace e8 : wr.drew.cell? _ = _ := e8
      refine start_ (n := 7) (S := fun w' => w'.cell? ⟨OB, 0, none⟩ = some (.bool o0) ∧ w'.cell? ⟨OB, 1, none⟩ = some (.int .i64 o1) ∧ w'.cell? ⟨OB, 2, none⟩ = some (.bool o2) ∧ w'.cell? ⟨OB, 3, none⟩ = some (.int .u64 o3) ∧ w'.cell? ⟨OB, 4, none⟩ = some (.int .i64 o4) ∧ w'.cell? ⟨OB, 5, none⟩ = some (.int .i64 o5) ∧ w'.cell? ⟨OB, 6, none⟩ = some (.bool o6) ∧ w'.cell? ⟨OB, 7, none⟩ = some (.int .u64 o7) ∧ w'.cell? ⟨OB, 8, none⟩ = some (.int .i64 o8) ∧ w'.cell? ⟨b, off + k * 9, none⟩ = some (.bool x0) ∧ w'.cell? ⟨b, off + k * 9 + 1, none⟩ = some (.int .i64 x1) ∧ w'.cell? ⟨b, off + k * 9 + 2, none⟩ = some (.bool x2) ∧ w'.cell? ⟨b, off + k * 9 + 3, none⟩ = some (.int .u64 x3) ∧ w'.cell? ⟨b, off + k * 9 + 4, none⟩ = some (.int .i64 x4) ∧ w'.cell? ⟨b, off + k * 9 + 5, none⟩ = some (.int .i64 x5) ∧ w'.cell? ⟨b, off + k * 9 + 6, none⟩ = some (.bool x6) ∧ w'.cell? ⟨b, off + k * 9 + 7, none⟩ = some (.int .u64 x7) ∧ w'.cell? ⟨b, off + k * 9 + 8, none⟩ = some (.int .i64 x8)) (ds := [6]) #[false, false, false, false, false, false, false] (by kernel_rfl) rfl rfl ⟨BO.cell 0, BO.cell 1, BO.cell 2, BO.cell 3, BO.cell 4, BO.cell 5, BO.cell 6, BO.cell 7, BO.cell 8, e0, e1, e2, e3, e4, e5, e6, e7, e8⟩ (fun hHeld => ?_)
      generalize hWW : World.drew _ = W5 at BO BR HB e0 e1 e2 e3 e4 e5 e6 e7 e8 hHeld ⊢
      clear hWW
      refine take_ (i := 0) (N := some 12) (v := ?_) (a' := ?_) #[true, false, false, false, false, false, false] rfl rfl (by kernel_rfl) (fun _ _ _ h => h) (Or.inl ⟨by rfl, ?_⟩) hHeld ?_ ?_
      rotate_left
      · rintro w' ⟨s0_, s1_, s2_, s3_, s4_, s5_, s6_, s7_, s8_, s9_, s10_, s11_, s12_, s13_, s14_, s15_, s16_, s17_⟩
        go_simp
        with_reducible rfl
      rotate_left
      · simp only [Act.put, List.setIfInBounds_toArray, List.set_cons_zero, List.set_cons_succ]
        rfl
      refine pure_ (i := 1) (N := some 13) (v := ?_) (a' := ?_) #[true, true, false, false, false, false, false] rfl rfl (by kernel_rfl) (fun _ _ _ h => h) (Or.inl ⟨by rfl, ?_⟩) ?_ ?_
      rotate_left
      · intro w'
        go_simp
        with_reducible rfl
      rotate_left
      · simp only [Act.put, List.setIfInBounds_toArray, List.set_cons_zero, List.set_cons_succ]
        rfl
      refine pure_ (i := 2) (N := some 14) (v := ?_) (a' := ?_) #[true, true, true, false, false, false, false] rfl rfl (by kernel_rfl) (fun _ _ _ h => h) (Or.inl ⟨by rfl, ?_⟩) ?_ ?_
      rotate_left
      · intro w'
        go_simp
        with_reducible rfl
      rotate_left
      · simp only [Act.put, List.setIfInBounds_toArray, List.set_cons_zero, List.set_cons_succ]
        rfl
      refine pure_ (i := 3) (N := some 15) (v := ?_) (a' := ?_) #[true, true, true, true, false, false, false] rfl rfl (by kernel_rfl) (fun _ _ _ h => h) (Or.inl ⟨by rfl, ?_⟩) ?_ ?_
      rotate_left
      · intro w'
        go_simp
        with_reducible rfl
      rotate_left
      · simp only [Act.put, List.setIfInBounds_toArray, List.set_cons_zero, List.set_cons_succ]
        rfl
      refine take_ (i := 4) (N := some 16) (v := ?_) (a' := ?_) #[true, true, true, true, true, false, false] rfl rfl (by kernel_rfl) (fun _ _ _ h => h) (Or.inl ⟨by rfl, ?_⟩) hHeld ?_ ?_
      rotate_left
      · rintro w' ⟨s0_, s1_, s2_, s3_, s4_, s5_, s6_, s7_, s8_, s9_, s10_, s11_, s12_, s13_, s14_, s15_, s16_, s17_⟩
        go_simp
        with_reducible rfl
      rotate_left
      · simp only [Act.put, List.setIfInBounds_toArray, List.set_cons_zero, List.set_cons_succ]
        rfl
      refine one_ (i := 5) (N := some 17) #[true, true, true, true, true, true, false] rfl rfl (by kernel_rfl) (by decide) (fun K hK => ?_)
      refine goes_ Try.func70 (by kernel_rfl) rfl #[.agg #[.bool o0, .int .i64 o1, .bool o2, .int .u64 o3, .int .i64 o4, .int .i64 o5, .bool o6, .int .u64 o7, .int .i64 o8], .agg #[.bool x0, .int .i64 x1, .bool x2, .int .u64 x3, .int .i64 x4, .int .i64 x5, .bool x6, .int .u64 x7, .int .i64 x8]] (by rfl) rfl rfl (by simp only [List.map_toArray, List.map_cons, List.map_nil] <;> rfl) ?_
      with_reducible refine (HC.out _).mono ?_
      rintro e w2 ⟨rfl, hb⟩
      refine ⟨_, rfl, ?_⟩
      have BO := BO.call hb
      have BR := BR.call hb
      have hbW' : b < W5.heap.size := Nat.lt_of_lt_of_le hbB HB.size
      replace e0 := (hb.cell (p := ⟨b, off + k * 9, none⟩) hbW').trans e0
      replace e1 := (hb.cell (p := ⟨b, off + k * 9 + 1, none⟩) hbW').trans e1
      replace e2 := (hb.cell (p := ⟨b, off + k * 9 + 2, none⟩) hbW').trans e2
      replace e3 := (hb.cell (p := ⟨b, off + k * 9 + 3, none⟩) hbW').trans e3
      replace e4 := (hb.cell (p := ⟨b, off + k * 9 + 4, none⟩) hbW').trans e4
      replace e5 := (hb.cell (p := ⟨b, off + k * 9 + 5, none⟩) hbW').trans e5
      replace e6 := (hb.cell (p := ⟨b, off + k * 9 + 6, none⟩) hbW').trans e6
      replace e7 := (hb.cell (p := ⟨b, off + k * 9 + 7, none⟩) hbW').trans e7
      replace e8 := (hb.cell (p := ⟨b, off + k * 9 + 8, none⟩) hbW').trans e8
      have HB := bl_trans HB hb
      refine hK.out _ _ ⟨BO.cell 0, BO.cell 1, BO.cell 2, BO.cell 3, BO.cell 4, BO.cell 5, BO.cell 6, BO.cell 7, BO.cell 8, e0, e1, e2, e3, e4, e5, e6, e7, e8⟩ (fun hHeld => ?_)
      clear hK K hb
      refine norm_ (a' := ?_) ?_ ?_
      rotate_left
      · show Act.put _ (some 17) _ = _
        simp only [Act.put, List.setIfInBounds_toArray, List.set_cons_zero, List.set_cons_succ]
        rfl
      obtain ⟨⟨p0, p1, p2, p3, p4, p5, p6, p7, p8⟩, ⟨g0, g1, g2, g3, g4, g5, g6, g7, g8⟩⟩ := BO.c9
      obtain ⟨W4, hW4, BO4, hK, hL, _⟩ := put9 BO (.bool f0) (.int .i64 f1) (.bool f2) (.int .u64 f3) (.int .i64 f4) (.int .i64 f5) (.bool f6) (.int .u64 f7) (.int .i64 f8)
      have BR4 := hK _ _ _ (Nat.ne_of_lt hz) BR
      have HB4 := hL w HB (Nat.le_of_lt hz)
      refine last_ (i := 6) (N := none) #[true, true, true, true, true, true, true] rfl rfl (by kernel_rfl) (by decide) (fun K hK => ?_)
      refine skip_ (w1 := ?_) (by rfl) rfl ?_ ?_
      rotate_left
      · go_simp
        rfl
      refine hK.out _ _ ?_
      clear hK K
      refine done_ (by kernel_rfl) ?_
      clear hHeld
      go_wp2
      go_roundw
      case rel => exact ⟨k + 1, by omega, by go_num, f0, f1, f2, f3, f4, f5, f6, f7, f8, by rw [Hs.out], BO4, BR4, HB4⟩
      case measure => simp [intOf]; omega
    · have hkn : k = n := by omega
      have Hf : Hid ((⟨o0, ⟨o1, o2, o3, o4⟩, ⟨o5, o6, o7, o8⟩⟩ : Iv) = foldBoth xs) := by
        have h1 := Ho.out
        rw [List.take_of_length_le (by have := hs.1; omega)] at h1
        exact h1
      clear Ho hkn
      have hlt' : n ≤ k := by omega
      obtain ⟨W4, hW4, BR4, _, hL, _⟩ := put9 BR (.bool o0) (.int .i64 o1) (.bool o2) (.int .u64 o3) (.int .i64 o4) (.int .i64 o5) (.bool o6) (.int .u64 o7) (.int .i64 o8)
      have HB4 := hL w HB (Nat.le_refl _)
      obtain ⟨⟨q0, q1, q2, q3, q4, q5, q6, q7, q8⟩, _⟩ := BO.c9
      obtain ⟨⟨p0, p1, p2, p3, p4, p5, p6, p7, p8⟩, ⟨g0, g1, g2, g3, g4, g5, g6, g7, g8⟩⟩ := BR.c9
      go_wp2
      refine bodyPost_ret (results_cell_row rfl _ _ w.heap.size 44 #[.bool o0, .int .i64 o1, .bool o2, .int .u64 o3, .int .i64 o4, .int .i64 o5, .bool o6, .int .u64 o7, .int .i64 o8] (0, 0) _ rfl BR4 Try.underlying44 rfl (by kernel_rfl)) rfl ⟨?_, HB4⟩
      rw [← Hf.out]

end Go.Proofs.Ytakajahogjeiaaa.Wk
