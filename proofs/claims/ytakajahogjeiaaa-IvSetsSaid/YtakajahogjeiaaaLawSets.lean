/- Walk: peloruslaw08.IvSets returns true, for every input. -/
import Derived.Test.YtakajahogjeiaaaAw08
import Derived.Test.YtakajahogjeiaaaRefO
namespace Go.Proofs.Ytakajahogjeiaaa.Wk
open Go.RowKit Go.Proofs.Pl Go.Proofs.YtakajahogjeiaaaW.PrintLast
set_option linter.unusedSimpArgs false
set_option linter.unusedVariables false

set_option maxRecDepth 100000 in
set_option maxHeartbeats 8000000 in
theorem ivSets_calls (A : Option Addr) (n c : Nat) (xs : List Iv) (w : World) (hs : SlI w w.heap.size A n xs) (hw : ∀ x ∈ xs, WfIv x) :
    Calls Try.prog 10 #[.slice A n c] w fun e w' => e = .returned (.bool true) ∧ Below w.heap.size w w' := by
  have HM := Lib.hid (fun W (h : SlI W W.heap.size A n xs) (hn : n ≤ 2199023255552) => meetI_calls A n c xs W h hn)
  have HH := Lib.hid (fun W (h : SlI W W.heap.size A n xs) (hn : n ≤ 2199023255552) => hullI_calls A n c xs W h hn)
  have HRM := Lib.hid (fun W (h : SlI W W.heap.size A n xs) (hn : n ≤ 2199023255552) => r8meet_calls A n c xs W h hn)
  have HRH := Lib.hid (fun W (h : SlI W W.heap.size A n xs) (hn : n ≤ 2199023255552) => r8hull_calls A n c xs W h hn)
  rw [foldTwo_eq xs hw] at HRM
  rw [foldBoth_eq xs hw] at HRH
  have hm := may_meet xs
  have hh := may_hull xs
  generalize meetI xs = m at HM HRM hm
  generalize hullI xs = h at HH HRH hh
  obtain ⟨m0, ⟨m1, m2, m3, m4⟩, ⟨m5, m6, m7, m8⟩⟩ := m
  obtain ⟨h0, ⟨h1, h2, h3, h4⟩, ⟨h5, h6, h7, h8⟩⟩ := h
  dsimp only at HM HH HRM HRH
  have HXM := Lib.hid (fun W => mayI_calls m0 m1 m2 m3 m4 m5 m6 m7 m8 W)
  have HXH := Lib.hid (fun W => mayI_calls h0 h1 h2 h3 h4 h5 h6 h7 h8 W)
  rw [hm] at HXM
  rw [hh] at HXH
  clear hm hh hw
  have HB := Below.refl w.heap.size w
  by_cases hn : 50 < n
  · go_enter Try.func10, Try.ntmps10
    go_wp2_with (go_at_call 28; refine (awake08_calls _).mono ?_; rintro e w1 ⟨rfl, hb⟩; have HB1 := bl_trans HB hb; clear hb)
    go_ret
    exact ⟨rfl, HB1⟩
  · have hn2 : n ≤ 50 := by omega
    replace HM := Lib.hid (fun W h => HM.out W h (by omega))
    replace HH := Lib.hid (fun W h => HH.out W h (by omega))
    replace HRM := Lib.hid (fun W h => HRM.out W h (by omega))
    replace HRH := Lib.hid (fun W h => HRH.out W h (by omega))
    go_enter Try.func10, Try.ntmps10
    go_wp2_with fail
    refine (awake08_calls _).mono ?_
    rintro e w1 ⟨rfl, hb⟩
    have HB := bl_trans HB hb
    clear hb
    go_wp2_with fail
    refine (HM.out _ ((hs.below HB).more HB.size)).mono ?_
    rintro e w2 ⟨rfl, hb⟩
    have HB := bl_alloc (bl_trans HB hb) (.cells #[.bool m0, .int .i64 m1, .bool m2, .int .u64 m3, .int .i64 m4, .int .i64 m5, .bool m6, .int .u64 m7, .int .i64 m8] 44)
    have BM := Blk.new w2 44 #[.bool m0, .int .i64 m1, .bool m2, .int .u64 m3, .int .i64 m4, .int .i64 m5, .bool m6, .int .u64 m7, .int .i64 m8]
    clear hb
    go_wp2_with fail
    refine (HH.out _ ((hs.below HB).more HB.size)).mono ?_
    rintro e w3 ⟨rfl, hb⟩
    have HB := bl_alloc (bl_trans HB hb) (.cells #[.bool h0, .int .i64 h1, .bool h2, .int .u64 h3, .int .i64 h4, .int .i64 h5, .bool h6, .int .u64 h7, .int .i64 h8] 44)
    have BM := (BM.call hb).alloc (.cells #[.bool h0, .int .i64 h1, .bool h2, .int .u64 h3, .int .i64 h4, .int .i64 h5, .bool h6, .int .u64 h7, .int .i64 h8] 44)
    have BH := Blk.new w3 44 #[.bool h0, .int .i64 h1, .bool h2, .int .u64 h3, .int .i64 h4, .int .i64 h5, .bool h6, .int .u64 h7, .int .i64 h8]
    clear hb
    go_wp2_with fail
    replace BM := BM.drew
    replace BH := BH.drew
    replace HB := bl_drew HB
    have e1 := fun W => run_eqIv W m0 m0 m1 m1 m2 m2 m3 m3 m4 m4 m5 m5 m6 m6 m7 m7 m8 m8
    have e2 := fun W => run_eqIv W h0 h0 h1 h1 h2 h2 h3 h3 h4 h4 h5 h5 h6 h6 h7 h7 h8 h8
    rw [decide_eq_true rfl] at e1 e2
    refine start_ (n := 22) (S := fun w' => w'.cell? ⟨w2.heap.size, 0, none⟩ = some (.bool m0) ∧ w'.cell? ⟨w2.heap.size, 1, none⟩ = some (.int .i64 m1) ∧ w'.cell? ⟨w2.heap.size, 2, none⟩ = some (.bool m2) ∧ w'.cell? ⟨w2.heap.size, 3, none⟩ = some (.int .u64 m3) ∧ w'.cell? ⟨w2.heap.size, 4, none⟩ = some (.int .i64 m4) ∧ w'.cell? ⟨w2.heap.size, 5, none⟩ = some (.int .i64 m5) ∧ w'.cell? ⟨w2.heap.size, 6, none⟩ = some (.bool m6) ∧ w'.cell? ⟨w2.heap.size, 7, none⟩ = some (.int .u64 m7) ∧ w'.cell? ⟨w2.heap.size, 8, none⟩ = some (.int .i64 m8) ∧ w'.cell? ⟨w3.heap.size, 0, none⟩ = some (.bool h0) ∧ w'.cell? ⟨w3.heap.size, 1, none⟩ = some (.int .i64 h1) ∧ w'.cell? ⟨w3.heap.size, 2, none⟩ = some (.bool h2) ∧ w'.cell? ⟨w3.heap.size, 3, none⟩ = some (.int .u64 h3) ∧ w'.cell? ⟨w3.heap.size, 4, none⟩ = some (.int .i64 h4) ∧ w'.cell? ⟨w3.heap.size, 5, none⟩ = some (.int .i64 h5) ∧ w'.cell? ⟨w3.heap.size, 6, none⟩ = some (.bool h6) ∧ w'.cell? ⟨w3.heap.size, 7, none⟩ = some (.int .u64 h7) ∧ w'.cell? ⟨w3.heap.size, 8, none⟩ = some (.int .i64 h8)) (ds := []) #[false, false, false, false, false, false, false, false, false, false, false, false, false, false, false, false, false, false, false, false, false, false] (by kernel_rfl) rfl rfl ⟨BM.cell 0, BM.cell 1, BM.cell 2, BM.cell 3, BM.cell 4, BM.cell 5, BM.cell 6, BM.cell 7, BM.cell 8, BH.cell 0, BH.cell 1, BH.cell 2, BH.cell 3, BH.cell 4, BH.cell 5, BH.cell 6, BH.cell 7, BH.cell 8⟩ (fun hHeld => ?_)
    generalize hWW : World.drew _ = w4 at BM BH HB hHeld ⊢
    clear hWW
    refine pure_ (i := 0) (N := some 15) (v := ?_) (a' := ?_) #[true, false, false, false, false, false, false, false, false, false, false, false, false, false, false, false, false, false, false, false, false, false] rfl rfl (by kernel_rfl) (fun _ _ _ h => h) (Or.inl ⟨by rfl, ?_⟩) ?_ ?_
    rotate_left
    · intro w'
      go_simp
      with_reducible rfl
    rotate_left
    · simp only [Act.put, List.setIfInBounds_toArray, List.set_cons_zero, List.set_cons_succ]
      rfl
    refine pure_ (i := 1) (N := some 16) (v := ?_) (a' := ?_) #[true, true, false, false, false, false, false, false, false, false, false, false, false, false, false, false, false, false, false, false, false, false] rfl rfl (by kernel_rfl) (fun _ _ _ h => h) (Or.inl ⟨by rfl, ?_⟩) ?_ ?_
    rotate_left
    · intro w'
      go_simp
      with_reducible rfl
    rotate_left
    · simp only [Act.put, List.setIfInBounds_toArray, List.set_cons_zero, List.set_cons_succ]
      rfl
    refine take_ (i := 2) (N := some 17) (v := ?_) (a' := ?_) #[true, true, true, false, false, false, false, false, false, false, false, false, false, false, false, false, false, false, false, false, false, false] rfl rfl (by kernel_rfl) (fun _ _ _ h => h) (Or.inl ⟨by rfl, ?_⟩) hHeld ?_ ?_
    rotate_left
    · rintro w' ⟨s0_, s1_, s2_, s3_, s4_, s5_, s6_, s7_, s8_, s9_, s10_, s11_, s12_, s13_, s14_, s15_, s16_, s17_⟩
      go_simp
      with_reducible rfl
    rotate_left
    · simp only [Act.put, List.setIfInBounds_toArray, List.set_cons_zero, List.set_cons_succ]
      rfl
    refine pure_ (i := 3) (N := some 18) (v := ?_) (a' := ?_) #[true, true, true, true, false, false, false, false, false, false, false, false, false, false, false, false, false, false, false, false, false, false] rfl rfl (by kernel_rfl) (fun _ _ _ h => h) (Or.inl ⟨by rfl, ?_⟩) ?_ ?_
    rotate_left
    · intro w'
      go_simp
      with_reducible rfl
    rotate_left
    · simp only [Act.put, List.setIfInBounds_toArray, List.set_cons_zero, List.set_cons_succ]
      rfl
    refine one_ (i := 4) (N := some 19) #[true, true, true, true, true, false, false, false, false, false, false, false, false, false, false, false, false, false, false, false, false, false] rfl rfl (by kernel_rfl) (by decide) (fun K hK => ?_)
    refine goes_ Try.func31 (by kernel_rfl) rfl #[.slice A n c] (by rfl) rfl rfl (by simp only [List.map_toArray, List.map_cons, List.map_nil] <;> rfl) ?_
    with_reducible refine (HRM.out _ ((hs.below HB).more HB.size)).mono ?_
    rintro e w5 ⟨rfl, hb⟩
    refine ⟨_, rfl, ?_⟩
    have BM := BM.call hb
    have BH := BH.call hb
    have HB := bl_trans HB hb
    refine hK.out _ _ ⟨BM.cell 0, BM.cell 1, BM.cell 2, BM.cell 3, BM.cell 4, BM.cell 5, BM.cell 6, BM.cell 7, BM.cell 8, BH.cell 0, BH.cell 1, BH.cell 2, BH.cell 3, BH.cell 4, BH.cell 5, BH.cell 6, BH.cell 7, BH.cell 8⟩ (fun hHeld => ?_)
    clear hK K hb
    refine norm_ (a' := ?_) ?_ ?_
    rotate_left
    · show Act.put _ (some 19) _ = _
      simp only [Act.put, List.setIfInBounds_toArray, List.set_cons_zero, List.set_cons_succ]
      rfl
    refine pure_ (i := 5) (N := some 20) (v := ?_) (a' := ?_) #[true, true, true, true, true, true, false, false, false, false, false, false, false, false, false, false, false, false, false, false, false, false] rfl rfl (by kernel_rfl) (fun _ _ _ h => h) (Or.inl ⟨by rfl, ?_⟩) ?_ ?_
    rotate_left
    · intro w'
      go_simp
      with_reducible rfl
    rotate_left
    · simp only [Act.put, List.setIfInBounds_toArray, List.set_cons_zero, List.set_cons_succ]
      rfl
    refine pure_ (i := 6) (N := some 21) (v := ?_) (a' := ?_) #[true, true, true, true, true, true, true, false, false, false, false, false, false, false, false, false, false, false, false, false, false, false] rfl rfl (by kernel_rfl) (fun _ _ _ h => h) (Or.inl ⟨by rfl, ?_⟩) ?_ ?_
    rotate_left
    · intro w'
      go_simp
      with_reducible rfl
    rotate_left
    · simp only [Act.put, List.setIfInBounds_toArray, List.set_cons_zero, List.set_cons_succ]
      rfl
    refine pure_ (i := 7) (N := some 22) (v := ?_) (a' := ?_) #[true, true, true, true, true, true, true, true, false, false, false, false, false, false, false, false, false, false, false, false, false, false] rfl rfl (by kernel_rfl) (fun _ _ _ h => h) (Or.inl ⟨by rfl, ?_⟩) ?_ ?_
    rotate_left
    · intro w'
      go_simp
      with_reducible rfl
    rotate_left
    · simp only [Act.put, List.setIfInBounds_toArray, List.set_cons_zero, List.set_cons_succ]
      rfl
    refine take_ (i := 8) (N := some 23) (v := ?_) (a' := ?_) #[true, true, true, true, true, true, true, true, true, false, false, false, false, false, false, false, false, false, false, false, false, false] rfl rfl (by kernel_rfl) (fun _ _ _ h => h) (Or.inl ⟨by rfl, ?_⟩) hHeld ?_ ?_
    rotate_left
    · rintro w' ⟨s0_, s1_, s2_, s3_, s4_, s5_, s6_, s7_, s8_, s9_, s10_, s11_, s12_, s13_, s14_, s15_, s16_, s17_⟩
      go_simp
      with_reducible rfl
    rotate_left
    · simp only [Act.put, List.setIfInBounds_toArray, List.set_cons_zero, List.set_cons_succ]
      rfl
    refine pure_ (i := 9) (N := some 24) (v := ?_) (a' := ?_) #[true, true, true, true, true, true, true, true, true, true, false, false, false, false, false, false, false, false, false, false, false, false] rfl rfl (by kernel_rfl) (fun _ _ _ h => h) (Or.inl ⟨by rfl, ?_⟩) ?_ ?_
    rotate_left
    · intro w'
      go_simp
      with_reducible rfl
    rotate_left
    · simp only [Act.put, List.setIfInBounds_toArray, List.set_cons_zero, List.set_cons_succ]
      rfl
    refine one_ (i := 10) (N := some 25) #[true, true, true, true, true, true, true, true, true, true, true, false, false, false, false, false, false, false, false, false, false, false] rfl rfl (by kernel_rfl) (by decide) (fun K hK => ?_)
    refine goes_ Try.func32 (by kernel_rfl) rfl #[.slice A n c] (by rfl) rfl rfl (by simp only [List.map_toArray, List.map_cons, List.map_nil] <;> rfl) ?_
    with_reducible refine (HRH.out _ ((hs.below HB).more HB.size)).mono ?_
    rintro e w6 ⟨rfl, hb⟩
    refine ⟨_, rfl, ?_⟩
    have BM := BM.call hb
    have BH := BH.call hb
    have HB := bl_trans HB hb
    refine hK.out _ _ ⟨BM.cell 0, BM.cell 1, BM.cell 2, BM.cell 3, BM.cell 4, BM.cell 5, BM.cell 6, BM.cell 7, BM.cell 8, BH.cell 0, BH.cell 1, BH.cell 2, BH.cell 3, BH.cell 4, BH.cell 5, BH.cell 6, BH.cell 7, BH.cell 8⟩ (fun hHeld => ?_)
    clear hK K hb
    refine norm_ (a' := ?_) ?_ ?_
    rotate_left
    · show Act.put _ (some 25) _ = _
      simp only [Act.put, List.setIfInBounds_toArray, List.set_cons_zero, List.set_cons_succ]
      rfl
    refine pure_ (i := 11) (N := some 26) (v := ?_) (a' := ?_) #[true, true, true, true, true, true, true, true, true, true, true, true, false, false, false, false, false, false, false, false, false, false] rfl rfl (by kernel_rfl) (fun _ _ _ h => h) (Or.inl ⟨by rfl, ?_⟩) ?_ ?_
    rotate_left
    · intro w'
      go_simp
      with_reducible rfl
    rotate_left
    · simp only [Act.put, List.setIfInBounds_toArray, List.set_cons_zero, List.set_cons_succ]
      rfl
    refine pure_ (i := 12) (N := some 27) (v := ?_) (a' := ?_) #[true, true, true, true, true, true, true, true, true, true, true, true, true, false, false, false, false, false, false, false, false, false] rfl rfl (by kernel_rfl) (fun _ _ _ h => h) (Or.inl ⟨by rfl, ?_⟩) ?_ ?_
    rotate_left
    · intro w'
      go_simp
      with_reducible rfl
    rotate_left
    · simp only [Act.put, List.setIfInBounds_toArray, List.set_cons_zero, List.set_cons_succ]
      rfl
    refine pure_ (i := 13) (N := some 28) (v := ?_) (a' := ?_) #[true, true, true, true, true, true, true, true, true, true, true, true, true, true, false, false, false, false, false, false, false, false] rfl rfl (by kernel_rfl) (fun _ _ _ h => h) (Or.inl ⟨by rfl, ?_⟩) ?_ ?_
    rotate_left
    · intro w'
      go_simp
      with_reducible rfl
    rotate_left
    · simp only [Act.put, List.setIfInBounds_toArray, List.set_cons_zero, List.set_cons_succ]
      rfl
    refine take_ (i := 14) (N := some 29) (v := ?_) (a' := ?_) #[true, true, true, true, true, true, true, true, true, true, true, true, true, true, true, false, false, false, false, false, false, false] rfl rfl (by kernel_rfl) (fun _ _ _ h => h) (Or.inl ⟨by rfl, ?_⟩) hHeld ?_ ?_
    rotate_left
    · rintro w' ⟨s0_, s1_, s2_, s3_, s4_, s5_, s6_, s7_, s8_, s9_, s10_, s11_, s12_, s13_, s14_, s15_, s16_, s17_⟩
      go_simp
      with_reducible rfl
    rotate_left
    · simp only [Act.put, List.setIfInBounds_toArray, List.set_cons_zero, List.set_cons_succ]
      rfl
    refine one_ (i := 15) (N := some 30) #[true, true, true, true, true, true, true, true, true, true, true, true, true, true, true, true, false, false, false, false, false, false] rfl rfl (by kernel_rfl) (by decide) (fun K hK => ?_)
    refine goes_ Try.func33 (by kernel_rfl) rfl #[.agg #[.bool m0, .int .i64 m1, .bool m2, .int .u64 m3, .int .i64 m4, .int .i64 m5, .bool m6, .int .u64 m7, .int .i64 m8]] (by rfl) rfl rfl (by simp only [List.map_toArray, List.map_cons, List.map_nil] <;> rfl) ?_
    with_reducible refine (HXM.out _).mono ?_
    rintro e w7 ⟨rfl, hb⟩
    refine ⟨_, rfl, ?_⟩
    have BM := BM.call hb
    have BH := BH.call hb
    have HB := bl_trans HB hb
    refine hK.out _ _ ⟨BM.cell 0, BM.cell 1, BM.cell 2, BM.cell 3, BM.cell 4, BM.cell 5, BM.cell 6, BM.cell 7, BM.cell 8, BH.cell 0, BH.cell 1, BH.cell 2, BH.cell 3, BH.cell 4, BH.cell 5, BH.cell 6, BH.cell 7, BH.cell 8⟩ (fun hHeld => ?_)
    clear hK K hb
    refine norm_ (a' := ?_) ?_ ?_
    rotate_left
    · show Act.put _ (some 30) _ = _
      simp only [Act.put, List.setIfInBounds_toArray, List.set_cons_zero, List.set_cons_succ]
      rfl
    refine pure_ (i := 16) (N := some 31) (v := ?_) (a' := ?_) #[true, true, true, true, true, true, true, true, true, true, true, true, true, true, true, true, true, false, false, false, false, false] rfl rfl (by kernel_rfl) (fun _ _ _ h => h) (Or.inl ⟨by rfl, ?_⟩) ?_ ?_
    rotate_left
    · intro w'
      go_simp
      with_reducible rfl
    rotate_left
    · simp only [Act.put, List.setIfInBounds_toArray, List.set_cons_zero, List.set_cons_succ]
      rfl
    refine pure_ (i := 17) (N := some 32) (v := ?_) (a' := ?_) #[true, true, true, true, true, true, true, true, true, true, true, true, true, true, true, true, true, true, false, false, false, false] rfl rfl (by kernel_rfl) (fun _ _ _ h => h) (Or.inl ⟨by rfl, ?_⟩) ?_ ?_
    rotate_left
    · intro w'
      go_simp
      with_reducible rfl
    rotate_left
    · simp only [Act.put, List.setIfInBounds_toArray, List.set_cons_zero, List.set_cons_succ]
      rfl
    refine take_ (i := 18) (N := some 33) (v := ?_) (a' := ?_) #[true, true, true, true, true, true, true, true, true, true, true, true, true, true, true, true, true, true, true, false, false, false] rfl rfl (by kernel_rfl) (fun _ _ _ h => h) (Or.inl ⟨by rfl, ?_⟩) hHeld ?_ ?_
    rotate_left
    · rintro w' ⟨s0_, s1_, s2_, s3_, s4_, s5_, s6_, s7_, s8_, s9_, s10_, s11_, s12_, s13_, s14_, s15_, s16_, s17_⟩
      go_simp
      with_reducible rfl
    rotate_left
    · simp only [Act.put, List.setIfInBounds_toArray, List.set_cons_zero, List.set_cons_succ]
      rfl
    refine one_ (i := 19) (N := some 34) #[true, true, true, true, true, true, true, true, true, true, true, true, true, true, true, true, true, true, true, true, false, false] rfl rfl (by kernel_rfl) (by decide) (fun K hK => ?_)
    refine goes_ Try.func33 (by kernel_rfl) rfl #[.agg #[.bool h0, .int .i64 h1, .bool h2, .int .u64 h3, .int .i64 h4, .int .i64 h5, .bool h6, .int .u64 h7, .int .i64 h8]] (by rfl) rfl rfl (by simp only [List.map_toArray, List.map_cons, List.map_nil] <;> rfl) ?_
    with_reducible refine (HXH.out _).mono ?_
    rintro e w8 ⟨rfl, hb⟩
    refine ⟨_, rfl, ?_⟩
    have BM := BM.call hb
    have BH := BH.call hb
    have HB := bl_trans HB hb
    refine hK.out _ _ ⟨BM.cell 0, BM.cell 1, BM.cell 2, BM.cell 3, BM.cell 4, BM.cell 5, BM.cell 6, BM.cell 7, BM.cell 8, BH.cell 0, BH.cell 1, BH.cell 2, BH.cell 3, BH.cell 4, BH.cell 5, BH.cell 6, BH.cell 7, BH.cell 8⟩ (fun hHeld => ?_)
    clear hK K hb
    refine norm_ (a' := ?_) ?_ ?_
    rotate_left
    · show Act.put _ (some 34) _ = _
      simp only [Act.put, List.setIfInBounds_toArray, List.set_cons_zero, List.set_cons_succ]
      rfl
    refine pure_ (i := 20) (N := some 35) (v := ?_) (a' := ?_) #[true, true, true, true, true, true, true, true, true, true, true, true, true, true, true, true, true, true, true, true, true, false] rfl rfl (by kernel_rfl) (fun _ _ _ h => h) (Or.inl ⟨by rfl, ?_⟩) ?_ ?_
    rotate_left
    · intro w'
      go_simp
      with_reducible rfl
    rotate_left
    · simp only [Act.put, List.setIfInBounds_toArray, List.set_cons_zero, List.set_cons_succ]
      rfl
    refine pure_ (i := 21) (N := some 2) (v := ?_) (a' := ?_) #[true, true, true, true, true, true, true, true, true, true, true, true, true, true, true, true, true, true, true, true, true, true] rfl rfl (by kernel_rfl) (fun _ _ _ h => h) (Or.inl ⟨by rfl, ?_⟩) ?_ ?_
    rotate_left
    · intro w'
      go_simp
      with_reducible rfl
    rotate_left
    · simp only [Act.put, List.setIfInBounds_toArray, List.set_cons_zero, List.set_cons_succ]
      rfl
    refine done_ (by kernel_rfl) ?_
    go_wp2
    go_ret
    exact ⟨rfl, HB⟩
end Go.Proofs.Ytakajahogjeiaaa.Wk
