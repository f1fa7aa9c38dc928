/- Walk: the reference's Inflate. -/
import Derived.Test.YtagojbgmgkkdpaaR8Bm
namespace Go.Proofs.Ytagojbgmgkkdpaa.Wk
open Go.RowKit Go.Proofs.Pl Go.Proofs.YtagojbgmgkkdpaaW.PrintLast
set_option linter.unusedSimpArgs false
set_option linter.unusedVariables false

set_option maxRecDepth 100000 in
set_option maxHeartbeats 8000000 in
theorem r8infl_calls (a0 : Bool) (a1 : Int) (a2 : Bool) (a3 a4 a5 : Int) (a6 : Bool) (a7 a8 : Int) (b0 : Int) (b1 : Bool) (b2 b3 : Int) (w : World) (wa : WfIv ⟨a0, ⟨a1, a2, a3, a4⟩, ⟨a5, a6, a7, a8⟩⟩) (wb : Wf ⟨b0, b1, b2, b3⟩) (ha : FewE ⟨a1, a2, a3, a4⟩ 1500) (hb : FewE ⟨a5, a6, a7, a8⟩ 1500) (hc : FewE ⟨b0, b1, b2, b3⟩ 1500) :
    Calls Try.prog 31 #[.agg #[.bool a0, .int .i64 a1, .bool a2, .int .u64 a3, .int .i64 a4, .int .i64 a5, .bool a6, .int .u64 a7, .int .i64 a8], .agg #[.int .i64 b0, .bool b1, .int .u64 b2, .int .i64 b3]] w fun e w' => e = .returned (.agg #[.bool (inflateI ⟨a0, ⟨a1, a2, a3, a4⟩, ⟨a5, a6, a7, a8⟩⟩ ⟨b0, b1, b2, b3⟩).emp, .int .i64 ((inflateI ⟨a0, ⟨a1, a2, a3, a4⟩, ⟨a5, a6, a7, a8⟩⟩ ⟨b0, b1, b2, b3⟩).lo).k, .bool ((inflateI ⟨a0, ⟨a1, a2, a3, a4⟩, ⟨a5, a6, a7, a8⟩⟩ ⟨b0, b1, b2, b3⟩).lo).n, .int .u64 ((inflateI ⟨a0, ⟨a1, a2, a3, a4⟩, ⟨a5, a6, a7, a8⟩⟩ ⟨b0, b1, b2, b3⟩).lo).m, .int .i64 ((inflateI ⟨a0, ⟨a1, a2, a3, a4⟩, ⟨a5, a6, a7, a8⟩⟩ ⟨b0, b1, b2, b3⟩).lo).e, .int .i64 ((inflateI ⟨a0, ⟨a1, a2, a3, a4⟩, ⟨a5, a6, a7, a8⟩⟩ ⟨b0, b1, b2, b3⟩).hi).k, .bool ((inflateI ⟨a0, ⟨a1, a2, a3, a4⟩, ⟨a5, a6, a7, a8⟩⟩ ⟨b0, b1, b2, b3⟩).hi).n, .int .u64 ((inflateI ⟨a0, ⟨a1, a2, a3, a4⟩, ⟨a5, a6, a7, a8⟩⟩ ⟨b0, b1, b2, b3⟩).hi).m, .int .i64 ((inflateI ⟨a0, ⟨a1, a2, a3, a4⟩, ⟨a5, a6, a7, a8⟩⟩ ⟨b0, b1, b2, b3⟩).hi).e]) ∧ Below w.heap.size w w' := by
  have HF := (fun w => r8fair_calls a0 a1 a2 a3 a4 a5 a6 a7 a8 w)
  obtain ⟨fl, fh⟩ := few_fairI (x := ⟨a0, ⟨a1, a2, a3, a4⟩, ⟨a5, a6, a7, a8⟩⟩) (by decide) ha hb
  have wf := fairI_wf wa
  unfold inflateI
  clear ha hb wa
  generalize fairI ⟨a0, ⟨a1, a2, a3, a4⟩, ⟨a5, a6, a7, a8⟩⟩ = c at HF fl fh wf ⊢
  obtain ⟨c0, ⟨c1, c2, c3, c4⟩, ⟨c5, c6, c7, c8⟩⟩ := c
  obtain ⟨wl, wh⟩ := wf
  dsimp only at HF wl wh fl fh ⊢
  have BY : Blk _ (w.heap.size + 1) 24 #[.int .i64 b0, .bool b1, .int .u64 b2, .int .i64 b3] := (Blk.new1 w (.cells #[.bool a0, .int .i64 a1, .bool a2, .int .u64 a3, .int .i64 a4, .int .i64 a5, .bool a6, .int .u64 a7, .int .i64 a8] 26) _ _).alloc (.cells #[.bool false, .int .i64 0, .bool false, .int .u64 0, .int .i64 0, .int .i64 0, .bool false, .int .u64 0, .int .i64 0] 26)
  have BR : Blk _ (w.heap.size + 1 + 1) 26 #[.bool false, .int .i64 0, .bool false, .int .u64 0, .int .i64 0, .int .i64 0, .bool false, .int .u64 0, .int .i64 0] := Blk.new2 w (.cells #[.bool a0, .int .i64 a1, .bool a2, .int .u64 a3, .int .i64 a4, .int .i64 a5, .bool a6, .int .u64 a7, .int .i64 a8] 26) (.cells #[.int .i64 b0, .bool b1, .int .u64 b2, .int .i64 b3] 24) _ _
  have HBd := (bl_alloc (bl_alloc (bl_alloc (Below.refl w.heap.size w) (.cells #[.bool a0, .int .i64 a1, .bool a2, .int .u64 a3, .int .i64 a4, .int .i64 a5, .bool a6, .int .u64 a7, .int .i64 a8] 26)) (.cells #[.int .i64 b0, .bool b1, .int .u64 b2, .int .i64 b3] 24)) (.cells #[.bool false, .int .i64 0, .bool false, .int .u64 0, .int .i64 0, .int .i64 0, .bool false, .int .u64 0, .int .i64 0] 26))
  have HG := (fun w => rsignN_calls b0 b1 b2 b3 w)
  generalize hsg : signN ⟨b0, b1, b2, b3⟩ = sg at HG ⊢
  cases c0
  · by_cases hs : sg < 0
    · rw [if_pos (.inr hs)]
      clear wl wh fl fh wb hc hsg
      replace HF := Lib.hid HF
      replace HG := Lib.hid HG
      go_enter Try.func31, Try.ntmps31
      go_wp2_with (first
        | (go_at_call 70; (with_reducible refine (HF.out _).mono ?_); rintro e1 w1 ⟨rfl, hb⟩; replace BY := (BY.call hb).alloc (.cells #[.bool false, .int .i64 c1, .bool c2, .int .u64 c3, .int .i64 c4, .int .i64 c5, .bool c6, .int .u64 c7, .int .i64 c8] 26); replace BR := (BR.call hb).alloc (.cells #[.bool false, .int .i64 c1, .bool c2, .int .u64 c3, .int .i64 c4, .int .i64 c5, .bool c6, .int .u64 c7, .int .i64 c8] 26); replace HBd := bl_alloc (bl_trans HBd hb) (.cells #[.bool false, .int .i64 c1, .bool c2, .int .u64 c3, .int .i64 c4, .int .i64 c5, .bool c6, .int .u64 c7, .int .i64 c8] 26); have BX : Blk (w1.alloc (.cells #[.bool false, .int .i64 c1, .bool c2, .int .u64 c3, .int .i64 c4, .int .i64 c5, .bool c6, .int .u64 c7, .int .i64 c8] 26)) w1.heap.size 26 #[.bool false, .int .i64 c1, .bool c2, .int .u64 c3, .int .i64 c4, .int .i64 c5, .bool c6, .int .u64 c7, .int .i64 c8] := Blk.new w1 _ _; obtain ⟨⟨y0, y1, y2, y3⟩, _⟩ := BY.c4; clear hb)
        | (go_at_call 78; (with_reducible refine (HG.out _).mono ?_); rintro e2 w2 ⟨rfl, hb⟩; replace BX := BX.call hb; replace BR := BR.call hb; replace HBd := bl_trans HBd hb; obtain ⟨⟨q0, q1, q2, q3, q4, q5, q6, q7, q8⟩, _⟩ := BX.c9; clear hb)
        | (refine wpList_stG rfl 26 (.tmp 4) (.tmp 15) rfl (w.heap.size + 1 + 1) _ #[.bool false, .int .i64 c1, .bool c2, .int .u64 c3, .int .i64 c4, .int .i64 c5, .bool c6, .int .u64 c7, .int .i64 c8] BR rfl rfl (by kernel_rfl) rfl (by simp [Value.oneCell']) ?_; intro W9 B9 P9; have HB9 := P9.bel HBd (by omega)))
      exact bodyPost_ret (results_cell_row rfl _ _ (w.heap.size + 1 + 1) 26 _ (0, 0) _ rfl B9 Try.underlying26 rfl (by kernel_rfl)) rfl ⟨rfl, HB9⟩
    · rw [if_neg (by simp [hs])]
      have HS := (fun w => r6sub_calls c1 c2 c3 c4 b0 b1 b2 b3 false w wl wb (fl.more (by decide)) (hc.more (by decide)))
      have HA := (fun w => r6add_calls c5 c6 c7 c8 b0 b1 b2 b3 true w wh wb (fh.more (by decide)) (hc.more (by decide)))
      generalize subN _ _ false = l at HS ⊢
      generalize addN _ _ true = h at HA ⊢
      obtain ⟨l0, l1, l2, l3⟩ := l
      obtain ⟨h0, h1, h2, h3⟩ := h
      have HM := (fun w => r8make_calls l0 l1 l2 l3 h0 h1 h2 h3 w)
      generalize makeI _ _ = p at HM ⊢
      obtain ⟨p0, ⟨p1, p2, p3, p4⟩, ⟨p5, p6, p7, p8⟩⟩ := p
      clear wl wh fl fh wb hc hsg
      replace HF := Lib.hid HF
      replace HG := Lib.hid HG
      replace HS := Lib.hid HS
      replace HA := Lib.hid HA
      replace HM := Lib.hid HM
      go_enter Try.func31, Try.ntmps31
      go_wp2_with (first
        | (go_at_call 70; (with_reducible refine (HF.out _).mono ?_); rintro e1 w1 ⟨rfl, hb⟩; replace BY := (BY.call hb).alloc (.cells #[.bool false, .int .i64 c1, .bool c2, .int .u64 c3, .int .i64 c4, .int .i64 c5, .bool c6, .int .u64 c7, .int .i64 c8] 26); replace BR := (BR.call hb).alloc (.cells #[.bool false, .int .i64 c1, .bool c2, .int .u64 c3, .int .i64 c4, .int .i64 c5, .bool c6, .int .u64 c7, .int .i64 c8] 26); replace HBd := bl_alloc (bl_trans HBd hb) (.cells #[.bool false, .int .i64 c1, .bool c2, .int .u64 c3, .int .i64 c4, .int .i64 c5, .bool c6, .int .u64 c7, .int .i64 c8] 26); have BX : Blk (w1.alloc (.cells #[.bool false, .int .i64 c1, .bool c2, .int .u64 c3, .int .i64 c4, .int .i64 c5, .bool c6, .int .u64 c7, .int .i64 c8] 26)) w1.heap.size 26 #[.bool false, .int .i64 c1, .bool c2, .int .u64 c3, .int .i64 c4, .int .i64 c5, .bool c6, .int .u64 c7, .int .i64 c8] := Blk.new w1 _ _; obtain ⟨⟨y0, y1, y2, y3⟩, _⟩ := BY.c4; clear hb)
        | (go_at_call 78; (with_reducible refine (HG.out _).mono ?_); rintro e2 w2 ⟨rfl, hb⟩; replace BX := BX.call hb; replace BY := BY.call hb; replace BR := BR.call hb; replace HBd := bl_trans HBd hb; clear y0 y1 y2 y3 hb))
      generalize w1.heap.size = g at BX ⊢
      replace BX := BX.drew
      replace BY := BY.drew
      replace BR := BR.drew
      replace HBd := bl_drew HBd
      refine start_ (n := 10) (S := fun w' => w'.cell? ⟨g, 0, none⟩ = some (.bool false) ∧ w'.cell? ⟨g, 1, none⟩ = some (.int .i64 c1) ∧ w'.cell? ⟨g, 2, none⟩ = some (.bool c2) ∧ w'.cell? ⟨g, 3, none⟩ = some (.int .u64 c3) ∧ w'.cell? ⟨g, 4, none⟩ = some (.int .i64 c4) ∧ w'.cell? ⟨g, 5, none⟩ = some (.int .i64 c5) ∧ w'.cell? ⟨g, 6, none⟩ = some (.bool c6) ∧ w'.cell? ⟨g, 7, none⟩ = some (.int .u64 c7) ∧ w'.cell? ⟨g, 8, none⟩ = some (.int .i64 c8) ∧ w'.cell? ⟨w.heap.size + 1, 0, none⟩ = some (.int .i64 b0) ∧ w'.cell? ⟨w.heap.size + 1, 1, none⟩ = some (.bool b1) ∧ w'.cell? ⟨w.heap.size + 1, 2, none⟩ = some (.int .u64 b2) ∧ w'.cell? ⟨w.heap.size + 1, 3, none⟩ = some (.int .i64 b3)) (ds := [9]) (bq 10 0) (by kernel_rfl) rfl rfl ⟨BX.cell 0, BX.cell 1, BX.cell 2, BX.cell 3, BX.cell 4, BX.cell 5, BX.cell 6, BX.cell 7, BX.cell 8, BY.cell 0, BY.cell 1, BY.cell 2, BY.cell 3⟩ (fun hHeld => ?_)
      refine pure_ (i := 0) (N := some 16) (v := ?_) (a' := ?_) (bq 10 1) rfl rfl (by kernel_rfl) (fun _ _ _ h => h) (Or.inl ⟨by rfl, ?_⟩) ?_ ?_
      rotate_left
      · intro w'
        go_simp
        with_reducible rfl
      rotate_left
      · simp only [Act.put, pA, pB, pC]
        rfl
      refine take_ (i := 1) (N := some 17) (v := ?_) (a' := ?_) (bq 10 3) rfl rfl (by kernel_rfl) (fun _ _ _ h => h) (Or.inl ⟨by rfl, ?_⟩) hHeld ?_ ?_
      rotate_left
      · rintro w' ⟨s0_, s1_, s2_, s3_, s4_, s5_, s6_, s7_, s8_, s9_, s10_, s11_, s12_⟩
        go_simp
        with_reducible rfl
      rotate_left
      · simp only [Act.put, pA, pB, pC]
        rfl
      refine take_ (i := 2) (N := some 18) (v := ?_) (a' := ?_) (bq 10 7) rfl rfl (by kernel_rfl) (fun _ _ _ h => h) (Or.inl ⟨by rfl, ?_⟩) hHeld ?_ ?_
      rotate_left
      · rintro w' ⟨s0_, s1_, s2_, s3_, s4_, s5_, s6_, s7_, s8_, s9_, s10_, s11_, s12_⟩
        go_simp
        with_reducible rfl
      rotate_left
      · simp only [Act.put, pA, pB, pC]
        rfl
      refine pure_ (i := 4) (N := some 20) (v := ?_) (a' := ?_) (bq 10 23) rfl rfl (by kernel_rfl) (fun _ _ _ h => h) (Or.inl ⟨by rfl, ?_⟩) ?_ ?_
      rotate_left
      · intro w'
        go_simp
        with_reducible rfl
      rotate_left
      · simp only [Act.put, pA, pB, pC]
        rfl
      refine take_ (i := 5) (N := some 21) (v := ?_) (a' := ?_) (bq 10 55) rfl rfl (by kernel_rfl) (fun _ _ _ h => h) (Or.inl ⟨by rfl, ?_⟩) hHeld ?_ ?_
      rotate_left
      · rintro w' ⟨s0_, s1_, s2_, s3_, s4_, s5_, s6_, s7_, s8_, s9_, s10_, s11_, s12_⟩
        go_simp
        with_reducible rfl
      rotate_left
      · simp only [Act.put, pA, pB, pC]
        rfl
      refine take_ (i := 6) (N := some 22) (v := ?_) (a' := ?_) (bq 10 119) rfl rfl (by kernel_rfl) (fun _ _ _ h => h) (Or.inl ⟨by rfl, ?_⟩) hHeld ?_ ?_
      rotate_left
      · rintro w' ⟨s0_, s1_, s2_, s3_, s4_, s5_, s6_, s7_, s8_, s9_, s10_, s11_, s12_⟩
        go_simp
        with_reducible rfl
      rotate_left
      · simp only [Act.put, pA, pB, pC]
        rfl
      refine one_ (i := 3) (N := some 19) (bq 10 127) rfl rfl (by kernel_rfl) (by decide) (fun K hK => ?_)
      refine goes_ Try.func77 (by kernel_rfl) rfl #[.agg #[.int .i64 c1, .bool c2, .int .u64 c3, .int .i64 c4], .agg #[.int .i64 b0, .bool b1, .int .u64 b2, .int .i64 b3], .bool false] (by first | rfl | go_simp) rfl rfl (by simp only [List.map_toArray, List.map_cons, List.map_nil] <;> rfl) ?_
      with_reducible refine (HS.out _).mono ?_
      rintro e w4 ⟨rfl, hb⟩
      refine ⟨_, rfl, ?_⟩
      replace BX := BX.call hb
      replace BY := BY.call hb
      replace BR := BR.call hb
      replace HBd := bl_trans HBd hb
      refine hK.out _ _ ⟨BX.cell 0, BX.cell 1, BX.cell 2, BX.cell 3, BX.cell 4, BX.cell 5, BX.cell 6, BX.cell 7, BX.cell 8, BY.cell 0, BY.cell 1, BY.cell 2, BY.cell 3⟩ (fun hHeld => ?_)
      clear hK K hb
      refine norm_ (a' := ?_) ?_ ?_
      rotate_left
      · show Act.put _ (some 19) _ = _
        simp only [Act.put, pA, pB, pC]
        rfl
      refine one_ (i := 7) (N := some 23) (bq 10 255) rfl rfl (by kernel_rfl) (by decide) (fun K hK => ?_)
      refine goes_ Try.func75 (by kernel_rfl) rfl #[.agg #[.int .i64 c5, .bool c6, .int .u64 c7, .int .i64 c8], .agg #[.int .i64 b0, .bool b1, .int .u64 b2, .int .i64 b3], .bool true] (by first | rfl | go_simp) rfl rfl (by simp only [List.map_toArray, List.map_cons, List.map_nil] <;> rfl) ?_
      with_reducible refine (HA.out _).mono ?_
      rintro e w5 ⟨rfl, hb⟩
      refine ⟨_, rfl, ?_⟩
      replace BX := BX.call hb
      replace BY := BY.call hb
      replace BR := BR.call hb
      replace HBd := bl_trans HBd hb
      refine hK.out _ _ ⟨BX.cell 0, BX.cell 1, BX.cell 2, BX.cell 3, BX.cell 4, BX.cell 5, BX.cell 6, BX.cell 7, BX.cell 8, BY.cell 0, BY.cell 1, BY.cell 2, BY.cell 3⟩ (fun hHeld => ?_)
      clear hK K hb
      refine norm_ (a' := ?_) ?_ ?_
      rotate_left
      · show Act.put _ (some 23) _ = _
        simp only [Act.put, pA, pB, pC]
        rfl
      refine one_ (i := 8) (N := some 24) (bq 10 511) rfl rfl (by kernel_rfl) (by decide) (fun K hK => ?_)
      refine goes_ Try.func72 (by kernel_rfl) rfl #[.agg #[.int .i64 l0, .bool l1, .int .u64 l2, .int .i64 l3], .agg #[.int .i64 h0, .bool h1, .int .u64 h2, .int .i64 h3]] (by first | rfl | go_simp) rfl rfl (by simp only [List.map_toArray, List.map_cons, List.map_nil] <;> rfl) ?_
      with_reducible refine (HM.out _).mono ?_
      rintro e w6 ⟨rfl, hb⟩
      refine ⟨_, rfl, ?_⟩
      replace BX := BX.call hb
      replace BY := BY.call hb
      replace BR := BR.call hb
      replace HBd := bl_trans HBd hb
      refine hK.out _ _ ⟨BX.cell 0, BX.cell 1, BX.cell 2, BX.cell 3, BX.cell 4, BX.cell 5, BX.cell 6, BX.cell 7, BX.cell 8, BY.cell 0, BY.cell 1, BY.cell 2, BY.cell 3⟩ (fun hHeld => ?_)
      clear hK K hb
      refine norm_ (a' := ?_) ?_ ?_
      rotate_left
      · show Act.put _ (some 24) _ = _
        simp only [Act.put, pA, pB, pC]
        rfl
      obtain ⟨⟨z0, z1, z2, z3, z4, z5, z6, z7, z8⟩, ⟨k0, k1, k2, k3, k4, k5, k6, k7, k8⟩⟩ := BR.c9
      obtain ⟨W9, hW9, B9, hK9, hL9, _⟩ := put9 BR (.bool p0) (.int .i64 p1) (.bool p2) (.int .u64 p3) (.int .i64 p4) (.int .i64 p5) (.bool p6) (.int .u64 p7) (.int .i64 p8)
      have HB9 := hL9 w HBd (by omega)
      refine last_ (i := 9) (N := none) (bq 10 1023) rfl rfl (by kernel_rfl) (by decide) (fun K hK => ?_)
      refine skip_ (w1 := ?_) (by rfl) rfl ?_ ?_
      rotate_left
      · go_simp
        rfl
      refine hK.out _ _ ?_
      clear hK K
      refine done_ (by kernel_rfl) ?_
      clear hHeld BX BY HBd BR
      clear z0 z1 z2 z3 z4 z5 z6 z7 z8 k0 k1 k2 k3 k4 k5 k6 k7 k8 hK9 hL9
      go_wp2
      exact bodyPost_ret (results_cell_row rfl _ _ (w.heap.size + 1 + 1) 26 _ (0, 0) _ rfl B9 Try.underlying26 rfl (by kernel_rfl)) rfl ⟨rfl, HB9⟩
  · rw [if_pos (.inl rfl)]
    clear wl wh fl fh wb hc hsg HG
    replace HF := Lib.hid HF
    go_enter Try.func31, Try.ntmps31
    go_wp2_with (first
      | (go_at_call 70; (with_reducible refine (HF.out _).mono ?_); rintro e1 w1 ⟨rfl, hb⟩; replace BY := (BY.call hb).alloc (.cells #[.bool true, .int .i64 c1, .bool c2, .int .u64 c3, .int .i64 c4, .int .i64 c5, .bool c6, .int .u64 c7, .int .i64 c8] 26); replace BR := (BR.call hb).alloc (.cells #[.bool true, .int .i64 c1, .bool c2, .int .u64 c3, .int .i64 c4, .int .i64 c5, .bool c6, .int .u64 c7, .int .i64 c8] 26); replace HBd := bl_alloc (bl_trans HBd hb) (.cells #[.bool true, .int .i64 c1, .bool c2, .int .u64 c3, .int .i64 c4, .int .i64 c5, .bool c6, .int .u64 c7, .int .i64 c8] 26); have BX : Blk (w1.alloc (.cells #[.bool true, .int .i64 c1, .bool c2, .int .u64 c3, .int .i64 c4, .int .i64 c5, .bool c6, .int .u64 c7, .int .i64 c8] 26)) w1.heap.size 26 #[.bool true, .int .i64 c1, .bool c2, .int .u64 c3, .int .i64 c4, .int .i64 c5, .bool c6, .int .u64 c7, .int .i64 c8] := Blk.new w1 _ _; clear hb)
      | (refine wpList_stG rfl 26 (.tmp 4) (.tmp 15) rfl (w.heap.size + 1 + 1) _ #[.bool true, .int .i64 c1, .bool c2, .int .u64 c3, .int .i64 c4, .int .i64 c5, .bool c6, .int .u64 c7, .int .i64 c8] BR rfl rfl (by kernel_rfl) rfl (by simp [Value.oneCell']) ?_; intro W9 B9 P9; have HB9 := P9.bel HBd (by omega)))
    exact bodyPost_ret (results_cell_row rfl _ _ (w.heap.size + 1 + 1) 26 _ (0, 0) _ rfl B9 Try.underlying26 rfl (by kernel_rfl)) rfl ⟨rfl, HB9⟩
end Go.Proofs.Ytagojbgmgkkdpaa.Wk
