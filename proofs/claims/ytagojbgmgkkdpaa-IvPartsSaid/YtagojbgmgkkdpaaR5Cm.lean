/- Walks: the reference's Exact, Neg. -/
import Derived.Test.YtagojbgmgkkdpaaR5Bm
namespace Go.Proofs.Ytagojbgmgkkdpaa.Wk
open Go.RowKit Go.Proofs.Pl Go.Proofs.YtagojbgmgkkdpaaW.PrintLast
set_option linter.unusedSimpArgs false
set_option linter.unusedVariables false

/-- what Exact leaves -/
def RetEx (w : World) (neg : Bool) (N : Nat) (e : Int) (en : Ending) (w' : World) : Prop := ∃ A n c, en = .returned (.tuple #[.agg #[.bool (neg && decide (0 < N)), .slice A n c, .int .i64 (dyE N e)], .bool true]) ∧ n ≤ c ∧ SlU w' w'.heap.size A n (digs (oddN N)) ∧ Below w.heap.size w w'
set_option maxRecDepth 100000 in
set_option maxHeartbeats 4000000 in
theorem r5exact_calls (a0 : Int) (a1 : Bool) (a2 a3 : Int) (w : World) (hm : mayN ⟨a0, a1, a2, a3⟩ = true) (hk : a0 ≠ 2) (hw : Wf ⟨a0, a1, a2, a3⟩) (he : -1000000 ≤ a3 ∧ a3 ≤ 1000000) :
    Calls Try.prog 108 #[.agg #[.int .i64 a0, .bool a1, .int .u64 a2, .int .i64 a3]] w (RetEx w a1 a2.toNat a3) := by
  have BX0 := Blk.new w 24 #[.int .i64 a0, .bool a1, .int .u64 a2, .int .i64 a3]
  have HMy := Lib.hid (fun W => rmayN_calls a0 a1 a2 a3 W)
  rw [hm] at HMy
  have hcs := may_cases hm
  have HB0 := (bl_alloc (bl_alloc (Below.refl w.heap.size w) (.cells #[.int .i64 a0, .bool a1, .int .u64 a2, .int .i64 a3] 24)) (.cells #[.bool false, .slice none 0 0, .int .i64 0] 115))
  have BX : Blk _ w.heap.size 24 #[.int .i64 a0, .bool a1, .int .u64 a2, .int .i64 a3] := Blk.alloc (Blk.new w _ _) (.cells #[.bool false, .slice none 0 0, .int .i64 0] 115)
  have BR : Blk _ (w.heap.size + 1) 115 #[.bool false, .slice none 0 0, .int .i64 0] := Blk.new1 w (.cells #[.int .i64 a0, .bool a1, .int .u64 a2, .int .i64 a3] 24) _ _
  clear BX0
  rename Below _ _ _ => HBd
  simp only at hcs
  unfold Wf at hw
  simp only at hw
  rcases hcs with ⟨h0, h1, h2, h3⟩ | ⟨h0, h1, h2, h3⟩ | ⟨h0, _⟩
  · subst h0 h1 h2 h3
    have hR : RetEx w false (0 : Int).toNat 0 = fun en w' => ∃ A n c, en = .returned (.tuple #[.agg #[.bool false, .slice A n c, .int .i64 0], .bool true]) ∧ n ≤ c ∧ SlU w' w'.heap.size A n [] ∧ Below w.heap.size w w' := by
      unfold RetEx
      rw [show (0 : Int).toNat = 0 from rfl, oddN_zero, digs_zero, dyE_zero]
      rfl
    rw [hR]
    clear hR hm hk hw he
    go_enter Try.func108, Try.ntmps108
    go_wp2_with (go_at_call 129; (with_reducible refine (HMy.out _).mono ?_); rintro e1 w1 ⟨rfl, hb1⟩; replace BX := BX.call hb1; replace BR := BR.call hb1; replace HBd := bl_trans HBd hb1; obtain ⟨⟨x0, x1, x2, x3⟩, _⟩ := BX.c4; obtain ⟨z0, z1, z2⟩ : w1.cell? ⟨w.heap.size + 1, 0, none⟩ = some (.bool false) ∧ w1.cell? ⟨w.heap.size + 1, 1, none⟩ = some (.slice none 0 0) ∧ w1.cell? ⟨w.heap.size + 1, 2, none⟩ = some (.int .i64 0) := ⟨BR.cell 0, BR.cell 1, BR.cell 2⟩; obtain ⟨f0, f1, f2⟩ : w1.frozen? ⟨w.heap.size + 1, 0, none⟩ = false ∧ w1.frozen? ⟨w.heap.size + 1, 1, none⟩ = false ∧ w1.frozen? ⟨w.heap.size + 1, 2, none⟩ = false := ⟨BR.frozen 0, BR.frozen 1, BR.frozen 2⟩)
    have B2 : Blk _ (w.heap.size + 1) 115 #[.bool false, .slice none 0 0, .int .i64 0] := (((BR.set_ 0 (.bool false)).set_ 1 (.slice none 0 0)).set_ 2 (.int .i64 0))
    have HB2 := (((HBd.setCell (p := ⟨w.heap.size + 1, 0, none⟩) (by show w.heap.size ≤ w.heap.size + 1; omega) (.bool false)).setCell (p := ⟨w.heap.size + 1, 1, none⟩) (by show w.heap.size ≤ w.heap.size + 1; omega) (.slice none 0 0)).setCell (p := ⟨w.heap.size + 1, 2, none⟩) (by show w.heap.size ≤ w.heap.size + 1; omega) (.int .i64 0))
    clear z0 z1 z2 x0 x1 x2 x3
    obtain ⟨l0, l1, l2⟩ := (⟨B2.cell 0, B2.cell 1, B2.cell 2⟩ : _ ∧ _ ∧ _)
    exact bodyPost_ret (v := .tuple #[.agg #[.bool false, .slice none 0 0, .int .i64 0], .bool true]) (by simp [results, Try.results108, go_sem, l0, l1, l2]) rfl ⟨none, 0, 0, rfl, Nat.le_refl _, SlU.nil _ _ _, HB2⟩
  · subst h0
    obtain ⟨w1, w2⟩ := hw
    have HLm := Lib.hid (fun W => r5limbs_calls a2 w1 w2 W)
    have HMk := fun A xs (hv : valL xs = a2.toNat) W h => r2make_calls a1 A 2 2 xs W h (by decide) (Nat.le_refl _)
    have hl2 : ∀ n', (digs a2.toNat).length = n' → n' ≤ 2 := fun n' h => digs_two (by omega) h
    have HM3 := (fun A n c W h (hn : n ≤ 2) hc => r3make_calls (a1 && decide (0 < a2.toNat)) A n c (digs a2.toNat) a3 W h (by omega) hc (by omega) (by omega))
    rw [valL_digs] at HM3
    replace HMk : ∀ A xs, valL xs = a2.toNat → ∀ W, SlU W W.heap.size A 2 xs → Calls Try.prog 132 #[.bool a1, .slice A 2 2] W (RetW W a1 a2.toNat) := fun A xs hv W h => by have := HMk A xs hv W h; rwa [hv] at this
    replace HM3 := (fun A n c W h hn hc => (HM3 A n c W h hn hc).mono fun e w' h => retDy_of (neg' := a1) h (fun h0 => by rw [decide_eq_true h0, Bool.and_true]))
    unfold RetW at HMk
    unfold RetDy at HM3
    generalize hm2 : a2.toNat = M at HLm HMk hl2 HM3 ⊢
    generalize hsv : (a1 && decide (0 < M)) = sv at HMk HM3
    generalize hpv : dyE M a3 = pv at HM3
    replace hsv := Lib.hid hsv
    replace hpv := Lib.hid hpv
    replace HMk := Lib.hid HMk
    replace HM3 := Lib.hid HM3
    replace hl2 := Lib.hid hl2
    clear hm hm2 hk
    go_enter Try.func108, Try.ntmps108
    go_wp2_with (go_at_call 129; (with_reducible refine (HMy.out _).mono ?_); rintro e1 w1 ⟨rfl, hb1⟩; replace BX := BX.call hb1; replace BR := BR.call hb1; replace HBd := bl_trans HBd hb1; obtain ⟨⟨x0, x1, x2, x3⟩, _⟩ := BX.c4)
    replace BX := BX.drew
    replace BR := BR.drew
    replace HBd := bl_drew HBd
    refine start_ (n := 11) (S := fun w' => w'.cell? ⟨w.heap.size, 0, none⟩ = some (.int .i64 1) ∧ w'.cell? ⟨w.heap.size, 1, none⟩ = some (.bool a1) ∧ w'.cell? ⟨w.heap.size, 2, none⟩ = some (.int .u64 a2) ∧ w'.cell? ⟨w.heap.size, 3, none⟩ = some (.int .i64 a3)) (ds := [9]) (bq 11 0) (by kernel_rfl) rfl rfl ⟨BX.cell 0, BX.cell 1, BX.cell 2, BX.cell 3⟩ (fun hHeld => ?_)
    refine pure_ (i := 0) (N := some 19) (v := ?_) (a' := ?_) (bq 11 1) rfl rfl (by kernel_rfl) (fun _ _ _ h => h) (Or.inl ⟨by rfl, ?_⟩) ?_ ?_
    rotate_left
    · intro w'
      go_simp
      with_reducible rfl
    rotate_left
    · simp only [Act.put, pA, pB, pC]
      rfl
    refine take_ (i := 1) (N := some 20) (v := ?_) (a' := ?_) (bq 11 3) rfl rfl (by kernel_rfl) (fun _ _ _ h => h) (Or.inl ⟨by rfl, ?_⟩) hHeld ?_ ?_
    rotate_left
    · rintro w' ⟨s0_, s1_, s2_, s3_⟩
      go_simp
      with_reducible rfl
    rotate_left
    · simp only [Act.put, pA, pB, pC]
      rfl
    refine pure_ (i := 2) (N := some 21) (v := ?_) (a' := ?_) (bq 11 7) rfl rfl (by kernel_rfl) (fun _ _ _ h => h) (Or.inl ⟨by rfl, ?_⟩) ?_ ?_
    rotate_left
    · intro w'
      go_simp
      with_reducible rfl
    rotate_left
    · simp only [Act.put, pA, pB, pC]
      rfl
    refine take_ (i := 3) (N := some 22) (v := ?_) (a' := ?_) (bq 11 15) rfl rfl (by kernel_rfl) (fun _ _ _ h => h) (Or.inl ⟨by rfl, ?_⟩) hHeld ?_ ?_
    rotate_left
    · rintro w' ⟨s0_, s1_, s2_, s3_⟩
      go_simp
      with_reducible rfl
    rotate_left
    · simp only [Act.put, pA, pB, pC]
      rfl
    refine pure_ (i := 6) (N := some 25) (v := ?_) (a' := ?_) (bq 11 79) rfl rfl (by kernel_rfl) (fun _ _ _ h => h) (Or.inl ⟨by rfl, ?_⟩) ?_ ?_
    rotate_left
    · intro w'
      go_simp
      with_reducible rfl
    rotate_left
    · simp only [Act.put, pA, pB, pC]
      rfl
    refine take_ (i := 7) (N := some 26) (v := ?_) (a' := ?_) (bq 11 207) rfl rfl (by kernel_rfl) (fun _ _ _ h => h) (Or.inl ⟨by rfl, ?_⟩) hHeld ?_ ?_
    rotate_left
    · rintro w' ⟨s0_, s1_, s2_, s3_⟩
      go_simp
      with_reducible rfl
    rotate_left
    · simp only [Act.put, pA, pB, pC]
      rfl
    refine one_ (i := 4) (N := some 23) (bq 11 223) rfl rfl (by kernel_rfl) (by decide) (fun K hK => ?_)
    refine goes_ Try.func133 (by kernel_rfl) rfl #[.int .u64 a2] (by first | rfl | go_simp) rfl rfl (by simp only [List.map_toArray, List.map_cons, List.map_nil] <;> rfl) ?_
    with_reducible refine (HLm.out _).mono ?_
    rintro e1 w3 ⟨A3, xs3, rfl, S3, hv3, hb⟩
    refine ⟨_, rfl, ?_⟩
    replace S3 := Lib.hid S3
    replace hv3 := Lib.hid hv3
    replace BX := BX.call hb
    replace BR := BR.call hb
    replace HBd := bl_trans HBd hb
    refine hK.out _ _ ⟨BX.cell 0, BX.cell 1, BX.cell 2, BX.cell 3⟩ (fun hHeld => ?_)
    clear hK K hb
    refine norm_ (a' := ?_) ?_ ?_
    rotate_left
    · show Act.put _ (some 23) _ = _
      simp only [Act.put, pA, pB, pC]
      rfl
    refine one_ (i := 5) (N := some 24) (bq 11 255) rfl rfl (by kernel_rfl) (by decide) (fun K hK => ?_)
    refine goes_ Try.func132 (by kernel_rfl) rfl #[.bool a1, .slice A3 2 2] (by first | rfl | go_simp) rfl rfl (by simp only [List.map_toArray, List.map_cons, List.map_nil] <;> rfl) ?_
    with_reducible refine (HMk.out _ _ hv3.out _ S3.out).mono ?_
    rintro e1 w4 ⟨A4, n4, c4, rfl, hc4, S4, hb⟩
    refine ⟨_, rfl, ?_⟩
    replace S4 := Lib.hid S4
    replace BX := BX.call hb
    replace BR := BR.call hb
    replace HBd := bl_trans HBd hb
    have hn4 := hl2.out _ S4.out.1
    refine hK.out _ _ ⟨BX.cell 0, BX.cell 1, BX.cell 2, BX.cell 3⟩ (fun hHeld => ?_)
    clear hK K hb
    refine norm_ (a' := ?_) ?_ ?_
    rotate_left
    · show Act.put _ (some 24) _ = _
      simp only [Act.put, pA, pB, pC]
      rfl
    refine one_ (i := 8) (N := some 27) (bq 11 511) rfl rfl (by kernel_rfl) (by decide) (fun K hK => ?_)
    refine goes_ Try.func131 (by kernel_rfl) rfl #[.agg #[.bool sv, .slice A4 n4 c4], .int .i64 a3] (by first | rfl | go_simp) rfl rfl (by simp only [List.map_toArray, List.map_cons, List.map_nil] <;> rfl) ?_
    with_reducible refine (HM3.out _ _ _ _ S4.out hn4 hc4).mono ?_
    rintro e1 w5 ⟨A5, n5, c5, rfl, hc5, S5, hb⟩
    refine ⟨_, rfl, ?_⟩
    replace S5 := Lib.hid S5
    replace BX := BX.call hb
    replace BR := BR.call hb
    replace HBd := bl_trans HBd hb
    obtain ⟨z0, z1, z2⟩ : w5.cell? ⟨w.heap.size + 1, 0, none⟩ = some (.bool false) ∧ w5.cell? ⟨w.heap.size + 1, 1, none⟩ = some (.slice none 0 0) ∧ w5.cell? ⟨w.heap.size + 1, 2, none⟩ = some (.int .i64 0) := ⟨BR.cell 0, BR.cell 1, BR.cell 2⟩
    obtain ⟨f0, f1, f2⟩ : w5.frozen? ⟨w.heap.size + 1, 0, none⟩ = false ∧ w5.frozen? ⟨w.heap.size + 1, 1, none⟩ = false ∧ w5.frozen? ⟨w.heap.size + 1, 2, none⟩ = false := ⟨BR.frozen 0, BR.frozen 1, BR.frozen 2⟩
    refine hK.out _ _ ⟨BX.cell 0, BX.cell 1, BX.cell 2, BX.cell 3⟩ (fun hHeld => ?_)
    clear hK K hb
    refine norm_ (a' := ?_) ?_ ?_
    rotate_left
    · show Act.put _ (some 27) _ = _
      simp only [Act.put, pA, pB, pC]
      rfl
    refine last_ (i := 9) (N := none) (bq 11 1023) rfl rfl (by kernel_rfl) (by decide) (fun K hK => ?_)
    refine skip_ (w1 := ?_) (by rfl) rfl ?_ ?_
    rotate_left
    · go_simp
      rfl
    refine hK.out _ _ ?_
    clear hK K
    refine pure_ (i := 10) (N := some 3) (v := ?_) (a' := ?_) (bq 11 2047) rfl rfl (by kernel_rfl) (fun _ _ _ h => h) (Or.inl ⟨by rfl, ?_⟩) ?_ ?_
    rotate_left
    · intro w'
      go_simp
      with_reducible rfl
    rotate_left
    · simp only [Act.put, pA, pB, pC]
      rfl
    refine done_ (by kernel_rfl) ?_
    go_wp2_with fail
    have B2 : Blk _ (w.heap.size + 1) 115 #[.bool sv, .slice A5 n5 c5, .int .i64 pv] := (((BR.set_ 0 (.bool sv)).set_ 1 (.slice A5 n5 c5)).set_ 2 (.int .i64 pv))
    have HB2 := (((HBd.setCell (p := ⟨w.heap.size + 1, 0, none⟩) (by show w.heap.size ≤ w.heap.size + 1; omega) (.bool sv)).setCell (p := ⟨w.heap.size + 1, 1, none⟩) (by show w.heap.size ≤ w.heap.size + 1; omega) (.slice A5 n5 c5)).setCell (p := ⟨w.heap.size + 1, 2, none⟩) (by show w.heap.size ≤ w.heap.size + 1; omega) (.int .i64 pv))
    have S6 := ((S5.out.st BR (noU3 _ _ _ _ _) 0 (.bool sv)).st (BR.set_ 0 _) (noU3 _ _ _ _ _) 1 (.slice A5 n5 c5)).st ((BR.set_ 0 _).set_ 1 _) (noU3 _ _ _ _ _) 2 (.int .i64 pv)
    clear z0 z1 z2
    obtain ⟨l0, l1, l2⟩ := (⟨B2.cell 0, B2.cell 1, B2.cell 2⟩ : _ ∧ _ ∧ _)
    exact bodyPost_ret (v := .tuple #[.agg #[.bool sv, .slice A5 n5 c5, .int .i64 pv], .bool true]) (by simp [results, Try.results108, go_sem, l0, l1, l2]) rfl ⟨A5, n5, c5, by rw [hsv.out, hpv.out], hc5, S6, HB2⟩
  · exact absurd h0 hk
set_option maxRecDepth 100000 in
set_option maxHeartbeats 4000000 in
theorem r5neg_calls (a0 : Int) (a1 : Bool) (a2 a3 : Int) (w : World) :
    Calls Try.prog 112 #[.agg #[.int .i64 a0, .bool a1, .int .u64 a2, .int .i64 a3]] w fun e w' => e = .returned (.agg #[.int .i64 (negN ⟨a0, a1, a2, a3⟩).k, .bool (negN ⟨a0, a1, a2, a3⟩).n, .int .u64 (negN ⟨a0, a1, a2, a3⟩).m, .int .i64 (negN ⟨a0, a1, a2, a3⟩).e]) ∧ Below w.heap.size w w' := by
  have HF := Lib.hid (rfairN_calls a0 a1 a2 a3)
  have hcs := may_cases (mayN_fair ⟨a0, a1, a2, a3⟩)
  unfold negN
  generalize fairN ⟨a0, a1, a2, a3⟩ = f at HF hcs ⊢
  obtain ⟨f0, f1, f2, f3⟩ := f
  unfold negF
  replace HF : Hid (∀ w, Calls Try.prog 111 #[.agg #[.int .i64 a0, .bool a1, .int .u64 a2, .int .i64 a3]] w fun e w' => e = .returned (.agg #[.int .i64 f0, .bool f1, .int .u64 f2, .int .i64 f3]) ∧ Below w.heap.size w w') := HF
  show Calls Try.prog 112 #[.agg #[.int .i64 a0, .bool a1, .int .u64 a2, .int .i64 a3]] w fun e w' => e = .returned (.agg #[.int .i64 f0, .bool (!(f0 == 0) && !f1), .int .u64 f2, .int .i64 f3]) ∧ Below w.heap.size w w'
  have hz : f0 = 0 → f1 = false := fun h => by
    simp only at hcs
    rcases hcs with ⟨_, h1, _⟩ | ⟨h1, _⟩ | ⟨h1, _⟩
    · exact h1
    · omega
    · omega
  clear hcs
  have BR : Blk _ (w.heap.size + 1) 24 #[.int .i64 0, .bool false, .int .u64 0, .int .i64 0] := Blk.new1 w (.cells #[.int .i64 a0, .bool a1, .int .u64 a2, .int .i64 a3] 24) _ _
  have HBd := (bl_alloc (bl_alloc (Below.refl w.heap.size w) (.cells #[.int .i64 a0, .bool a1, .int .u64 a2, .int .i64 a3] 24)) (.cells #[.int .i64 0, .bool false, .int .u64 0, .int .i64 0] 24))
  by_cases h0 : f0 = 0
  · subst h0
    have h1 := hz rfl
    subst h1
    clear hz
    go_enter Try.func112, Try.ntmps112
    go_wp2_with (go_at_call 111; (with_reducible refine (HF.out _).mono ?_); rintro e1 w1 ⟨rfl, hb⟩; replace BR := BR.call hb; replace HBd := bl_trans HBd hb; have hlr := BR.lt; obtain ⟨⟨z0, z1, z2, z3⟩, ⟨k0, k1, k2, k3⟩⟩ := BR.c4; clear hb)
    have B2 := ((((BR.set_ 0 (.int .i64 0)).set_ 1 (.bool false)).set_ 2 (.int .u64 f2)).set_ 3 (.int .i64 f3)).alloc (.cells #[.int .i64 0, .bool false, .int .u64 f2, .int .i64 f3] 24)
    have HB2 := bl_alloc ((((HBd.setCell (p := ⟨w.heap.size + 1, 0, none⟩) (by show w.heap.size ≤ w.heap.size + 1; omega) (.int .i64 0)).setCell (p := ⟨w.heap.size + 1, 1, none⟩) (by show w.heap.size ≤ w.heap.size + 1; omega) (.bool false)).setCell (p := ⟨w.heap.size + 1, 2, none⟩) (by show w.heap.size ≤ w.heap.size + 1; omega) (.int .u64 f2)).setCell (p := ⟨w.heap.size + 1, 3, none⟩) (by show w.heap.size ≤ w.heap.size + 1; omega) (.int .i64 f3)) (.cells #[.int .i64 0, .bool false, .int .u64 f2, .int .i64 f3] 24)
    exact bodyPost_ret (results_cell_row rfl _ _ (w.heap.size + 1) 24 _ (0, 0) _ rfl B2 Try.underlying24 rfl (by kernel_rfl)) rfl ⟨rfl, HB2⟩
  · have hb0 : (!(f0 == 0) && !f1) = !f1 := by simp [h0]
    rw [hb0]
    clear hb0 hz
    have hne : (f0 == 0) = false := by simp [h0]
    go_enter Try.func112, Try.ntmps112
    go_wp2_with (go_at_call 111; (with_reducible refine (HF.out _).mono ?_); rintro e1 w1 ⟨rfl, hb⟩; replace BR := BR.call hb; replace HBd := bl_trans HBd hb; have hlr := BR.lt; obtain ⟨⟨z0, z1, z2, z3⟩, ⟨k0, k1, k2, k3⟩⟩ := BR.c4; clear hb)
    have B2 := ((((BR.set_ 0 (.int .i64 f0)).set_ 1 (.bool !f1)).set_ 2 (.int .u64 f2)).set_ 3 (.int .i64 f3)).alloc (.cells #[.int .i64 f0, .bool !f1, .int .u64 f2, .int .i64 f3] 24)
    have HB2 := bl_alloc ((((HBd.setCell (p := ⟨w.heap.size + 1, 0, none⟩) (by show w.heap.size ≤ w.heap.size + 1; omega) (.int .i64 f0)).setCell (p := ⟨w.heap.size + 1, 1, none⟩) (by show w.heap.size ≤ w.heap.size + 1; omega) (.bool !f1)).setCell (p := ⟨w.heap.size + 1, 2, none⟩) (by show w.heap.size ≤ w.heap.size + 1; omega) (.int .u64 f2)).setCell (p := ⟨w.heap.size + 1, 3, none⟩) (by show w.heap.size ≤ w.heap.size + 1; omega) (.int .i64 f3)) (.cells #[.int .i64 f0, .bool !f1, .int .u64 f2, .int .i64 f3] 24)
    exact bodyPost_ret (results_cell_row rfl _ _ (w.heap.size + 1) 24 _ (0, 0) _ rfl B2 Try.underlying24 rfl (by kernel_rfl)) rfl ⟨rfl, HB2⟩
end Go.Proofs.Ytagojbgmgkkdpaa.Wk
