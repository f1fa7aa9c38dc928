/- Walk: the reference's sum. -/
import Derived.Test.YtagojbgmgkkdpaaR6Pm
import Derived.Test.YtagojbgmgkkdpaaMRa
namespace Go.Proofs.Ytagojbgmgkkdpaa.Wk
open Go.RowKit Go.Proofs.Pl Go.Proofs.YtagojbgmgkkdpaaW.PrintLast
set_option linter.unusedSimpArgs false
set_option linter.unusedVariables false

set_option maxRecDepth 100000 in
set_option maxHeartbeats 4000000 in
theorem r6add_calls (a0 : Int) (a1 : Bool) (a2 a3 : Int) (b0 : Int) (b1 : Bool) (b2 b3 : Int) (up : Bool) (w : World) (wa : Wf ⟨a0, a1, a2, a3⟩) (wb : Wf ⟨b0, b1, b2, b3⟩) (ha : FewE ⟨a0, a1, a2, a3⟩ 2900) (hb : FewE ⟨b0, b1, b2, b3⟩ 2900) :
    Calls Try.prog 75 #[.agg #[.int .i64 a0, .bool a1, .int .u64 a2, .int .i64 a3], .agg #[.int .i64 b0, .bool b1, .int .u64 b2, .int .i64 b3], .bool up] w fun e w' => e = .returned (.agg #[.int .i64 (addN ⟨a0, a1, a2, a3⟩ ⟨b0, b1, b2, b3⟩ up).k, .bool (addN ⟨a0, a1, a2, a3⟩ ⟨b0, b1, b2, b3⟩ up).n, .int .u64 (addN ⟨a0, a1, a2, a3⟩ ⟨b0, b1, b2, b3⟩ up).m, .int .i64 (addN ⟨a0, a1, a2, a3⟩ ⟨b0, b1, b2, b3⟩ up).e]) ∧ Below w.heap.size w w' := by
  have HFa := Lib.hid (r6fairN_calls a0 a1 a2 a3)
  have HFb := Lib.hid (r6fairN_calls b0 b1 b2 b3)
  have mf := mayN_fair ⟨a0, a1, a2, a3⟩
  have mg := mayN_fair ⟨b0, b1, b2, b3⟩
  replace wa := fairN_wf wa
  replace wb := fairN_wf wb
  unfold FewE at ha hb
  unfold addN
  generalize fairN ⟨a0, a1, a2, a3⟩ = f at *
  generalize fairN ⟨b0, b1, b2, b3⟩ = g at *
  replace HFa : Hid (∀ w, Calls Try.prog 105 #[.agg #[.int .i64 a0, .bool a1, .int .u64 a2, .int .i64 a3]] w fun e w' => e = .returned (.agg #[.int .i64 f.k, .bool f.n, .int .u64 f.m, .int .i64 f.e]) ∧ Below w.heap.size w w') := HFa
  replace HFb : Hid (∀ w, Calls Try.prog 105 #[.agg #[.int .i64 b0, .bool b1, .int .u64 b2, .int .i64 b3]] w fun e w' => e = .returned (.agg #[.int .i64 g.k, .bool g.n, .int .u64 g.m, .int .i64 g.e]) ∧ Below w.heap.size w w') := HFb
  have BQ : Blk _ (w.heap.size + 1) 24 #[.int .i64 b0, .bool b1, .int .u64 b2, .int .i64 b3] := Blk.alloc (Blk.new1 w (.cells #[.int .i64 a0, .bool a1, .int .u64 a2, .int .i64 a3] 24) _ _) (.cells #[.int .i64 0, .bool false, .int .u64 0, .int .i64 0] 24)
  have BR : Blk _ (w.heap.size + 1 + 1) 24 #[.int .i64 0, .bool false, .int .u64 0, .int .i64 0] := Blk.new2 w (.cells #[.int .i64 a0, .bool a1, .int .u64 a2, .int .i64 a3] 24) (.cells #[.int .i64 b0, .bool b1, .int .u64 b2, .int .i64 b3] 24) _ _
  have HBd := (bl_alloc (bl_alloc (bl_alloc (Below.refl w.heap.size w) (.cells #[.int .i64 a0, .bool a1, .int .u64 a2, .int .i64 a3] 24)) (.cells #[.int .i64 b0, .bool b1, .int .u64 b2, .int .i64 b3] 24)) (.cells #[.int .i64 0, .bool false, .int .u64 0, .int .i64 0] 24))
  unfold addF
  by_cases h1 : f.k = 2
  · by_cases h2 : g.k = 2 ∧ f.n ≠ g.n
    · rw [if_pos ⟨h1, h2.1, h2.2⟩]
      have HI := Lib.hid (fun w => rinfN_lit (!up) w)
      obtain ⟨h2, h3⟩ := h2
      obtain ⟨f0, f1, f2, f3⟩ := f
      obtain ⟨g0, g1, g2, g3⟩ := g
      simp only at h1 h2 h3
      subst h1 h2
      obtain rfl : g1 = !f1 := by cases f1 <;> cases g1 <;> simp_all
      clear mf mg wa wb ha hb h3
      show Calls Try.prog 75 #[.agg #[.int .i64 a0, .bool a1, .int .u64 a2, .int .i64 a3], .agg #[.int .i64 b0, .bool b1, .int .u64 b2, .int .i64 b3], .bool up] w fun e w' => e = .returned (.agg #[.int .i64 2, .bool (!up), .int .u64 0, .int .i64 0]) ∧ Below w.heap.size w w'
      go_enter Try.func75, Try.ntmps75
      go_wp2_with (first
          | (go_at_call 105; (with_reducible refine (HFa.out _).mono ?_); rintro e1 w1 ⟨rfl, hb1⟩; replace BQ := BQ.call hb1; replace BR := BR.call hb1; replace HBd := bl_trans HBd hb1; have hlb := BR.lt; have hlb1 := BQ.lt; obtain ⟨⟨y0, y1, y2, y3⟩, _⟩ := BQ.c4; have BF : Blk (w1.alloc (.cells #[.int .i64 2, .bool f1, .int .u64 f2, .int .i64 f3] 24)) w1.heap.size 24 #[.int .i64 2, .bool f1, .int .u64 f2, .int .i64 f3] := Blk.new w1 _ _; replace BR := BR.alloc (.cells #[.int .i64 2, .bool f1, .int .u64 f2, .int .i64 f3] 24); replace HBd := bl_alloc HBd (.cells #[.int .i64 2, .bool f1, .int .u64 f2, .int .i64 f3] 24); clear hb1)
          | (go_at_call 105; (with_reducible refine (HFb.out _).mono ?_); rintro e2 w2 ⟨rfl, hb2⟩; replace BF := BF.call hb2; replace BR := BR.call hb2; replace HBd := bl_trans HBd hb2; clear hlb hlb1 BQ hb2; have hgf := BF.lt; have hlr := BR.lt; obtain ⟨⟨x0, x1, x2, x3⟩, _⟩ := BF.c4; obtain ⟨⟨z0, z1, z2, z3⟩, ⟨k0, k1, k2, k3⟩⟩ := BR.c4)
          | (go_at_call 106; (with_reducible refine (HI.out _).mono ?_); rintro e3 w3 ⟨rfl, hb3⟩; replace BR := (BR.alloc (.cells #[.int .i64 2, .bool (!f1), .int .u64 g2, .int .i64 g3] 24)).call hb3; replace HBd := bl_trans (bl_alloc HBd (.cells #[.int .i64 2, .bool (!f1), .int .u64 g2, .int .i64 g3] 24)) hb3; clear z0 z1 z2 z3 k0 k1 k2 k3 hlr; have hlr := BR.lt; obtain ⟨⟨z0, z1, z2, z3⟩, ⟨k0, k1, k2, k3⟩⟩ := BR.c4))
      have B2 := ((((BR.set_ 0 (.int .i64 2)).set_ 1 (.bool (!up))).set_ 2 (.int .u64 0)).set_ 3 (.int .i64 0))
      have HB2 := ((((HBd.setCell (p := ⟨w.heap.size + 1 + 1, 0, none⟩) (by show w.heap.size ≤ w.heap.size + 1 + 1; omega) (.int .i64 2)).setCell (p := ⟨w.heap.size + 1 + 1, 1, none⟩) (by show w.heap.size ≤ w.heap.size + 1 + 1; omega) (.bool (!up))).setCell (p := ⟨w.heap.size + 1 + 1, 2, none⟩) (by show w.heap.size ≤ w.heap.size + 1 + 1; omega) (.int .u64 0)).setCell (p := ⟨w.heap.size + 1 + 1, 3, none⟩) (by show w.heap.size ≤ w.heap.size + 1 + 1; omega) (.int .i64 0))
      exact bodyPost_ret (results_cell_row rfl _ _ (w.heap.size + 1 + 1) 24 _ (0, 0) _ rfl B2 Try.underlying24 rfl (by kernel_rfl)) rfl ⟨rfl, HB2⟩
    · rw [if_neg (fun h => h2 h.2), if_pos h1]
      have h3 : (g.k == 2) = false ∨ (g.k = 2 ∧ g.n = f.n) := by
        by_cases h : g.k = 2
        · refine .inr ⟨h, ?_⟩
          cases hf : f.n <;> cases hg : g.n <;> simp_all
        · exact .inl (by simpa using h)
      obtain ⟨f0, f1, f2, f3⟩ := f
      obtain ⟨g0, g1, g2, g3⟩ := g
      simp only at h1 h2 h3
      subst h1
      clear mf mg wa wb ha hb h2
      show Calls Try.prog 75 #[.agg #[.int .i64 a0, .bool a1, .int .u64 a2, .int .i64 a3], .agg #[.int .i64 b0, .bool b1, .int .u64 b2, .int .i64 b3], .bool up] w fun e w' => e = .returned (.agg #[.int .i64 2, .bool f1, .int .u64 f2, .int .i64 f3]) ∧ Below w.heap.size w w'
      rcases h3 with h3 | ⟨rfl, rfl⟩
      · skip
        go_enter Try.func75, Try.ntmps75
        go_wp2_with (first
            | (go_at_call 105; (with_reducible refine (HFa.out _).mono ?_); rintro e1 w1 ⟨rfl, hb1⟩; replace BQ := BQ.call hb1; replace BR := BR.call hb1; replace HBd := bl_trans HBd hb1; have hlb := BR.lt; have hlb1 := BQ.lt; obtain ⟨⟨y0, y1, y2, y3⟩, _⟩ := BQ.c4; have BF : Blk (w1.alloc (.cells #[.int .i64 2, .bool f1, .int .u64 f2, .int .i64 f3] 24)) w1.heap.size 24 #[.int .i64 2, .bool f1, .int .u64 f2, .int .i64 f3] := Blk.new w1 _ _; replace BR := BR.alloc (.cells #[.int .i64 2, .bool f1, .int .u64 f2, .int .i64 f3] 24); replace HBd := bl_alloc HBd (.cells #[.int .i64 2, .bool f1, .int .u64 f2, .int .i64 f3] 24); clear hb1)
            | (go_at_call 105; (with_reducible refine (HFb.out _).mono ?_); rintro e2 w2 ⟨rfl, hb2⟩; replace BF := BF.call hb2; replace BR := BR.call hb2; replace HBd := bl_trans HBd hb2; clear hlb hlb1 BQ hb2; have hgf := BF.lt; have hlr := BR.lt; obtain ⟨⟨x0, x1, x2, x3⟩, _⟩ := BF.c4; obtain ⟨⟨z0, z1, z2, z3⟩, ⟨k0, k1, k2, k3⟩⟩ := BR.c4))
        have B2 := ((((BR.set_ 0 (.int .i64 2)).set_ 1 (.bool f1)).set_ 2 (.int .u64 f2)).set_ 3 (.int .i64 f3)).alloc (.cells #[.int .i64 g0, .bool g1, .int .u64 g2, .int .i64 g3] 24)
        have HB2 := bl_alloc (((((HBd.setCell (p := ⟨w.heap.size + 1 + 1, 0, none⟩) (by show w.heap.size ≤ w.heap.size + 1 + 1; omega) (.int .i64 2)).setCell (p := ⟨w.heap.size + 1 + 1, 1, none⟩) (by show w.heap.size ≤ w.heap.size + 1 + 1; omega) (.bool f1)).setCell (p := ⟨w.heap.size + 1 + 1, 2, none⟩) (by show w.heap.size ≤ w.heap.size + 1 + 1; omega) (.int .u64 f2)).setCell (p := ⟨w.heap.size + 1 + 1, 3, none⟩) (by show w.heap.size ≤ w.heap.size + 1 + 1; omega) (.int .i64 f3))) (.cells #[.int .i64 g0, .bool g1, .int .u64 g2, .int .i64 g3] 24)
        exact bodyPost_ret (results_cell_row rfl _ _ (w.heap.size + 1 + 1) 24 _ (0, 0) _ rfl B2 Try.underlying24 rfl (by kernel_rfl)) rfl ⟨rfl, HB2⟩
      · skip
        go_enter Try.func75, Try.ntmps75
        go_wp2_with (first
            | (go_at_call 105; (with_reducible refine (HFa.out _).mono ?_); rintro e1 w1 ⟨rfl, hb1⟩; replace BQ := BQ.call hb1; replace BR := BR.call hb1; replace HBd := bl_trans HBd hb1; have hlb := BR.lt; have hlb1 := BQ.lt; obtain ⟨⟨y0, y1, y2, y3⟩, _⟩ := BQ.c4; have BF : Blk (w1.alloc (.cells #[.int .i64 2, .bool g1, .int .u64 f2, .int .i64 f3] 24)) w1.heap.size 24 #[.int .i64 2, .bool g1, .int .u64 f2, .int .i64 f3] := Blk.new w1 _ _; replace BR := BR.alloc (.cells #[.int .i64 2, .bool g1, .int .u64 f2, .int .i64 f3] 24); replace HBd := bl_alloc HBd (.cells #[.int .i64 2, .bool g1, .int .u64 f2, .int .i64 f3] 24); clear hb1)
            | (go_at_call 105; (with_reducible refine (HFb.out _).mono ?_); rintro e2 w2 ⟨rfl, hb2⟩; replace BF := BF.call hb2; replace BR := BR.call hb2; replace HBd := bl_trans HBd hb2; clear hlb hlb1 BQ hb2; have hgf := BF.lt; have hlr := BR.lt; obtain ⟨⟨x0, x1, x2, x3⟩, _⟩ := BF.c4; obtain ⟨⟨z0, z1, z2, z3⟩, ⟨k0, k1, k2, k3⟩⟩ := BR.c4))
        have B2 := ((((BR.set_ 0 (.int .i64 2)).set_ 1 (.bool g1)).set_ 2 (.int .u64 f2)).set_ 3 (.int .i64 f3)).alloc (.cells #[.int .i64 2, .bool g1, .int .u64 g2, .int .i64 g3] 24)
        have HB2 := bl_alloc (((((HBd.setCell (p := ⟨w.heap.size + 1 + 1, 0, none⟩) (by show w.heap.size ≤ w.heap.size + 1 + 1; omega) (.int .i64 2)).setCell (p := ⟨w.heap.size + 1 + 1, 1, none⟩) (by show w.heap.size ≤ w.heap.size + 1 + 1; omega) (.bool g1)).setCell (p := ⟨w.heap.size + 1 + 1, 2, none⟩) (by show w.heap.size ≤ w.heap.size + 1 + 1; omega) (.int .u64 f2)).setCell (p := ⟨w.heap.size + 1 + 1, 3, none⟩) (by show w.heap.size ≤ w.heap.size + 1 + 1; omega) (.int .i64 f3))) (.cells #[.int .i64 2, .bool g1, .int .u64 g2, .int .i64 g3] 24)
        exact bodyPost_ret (results_cell_row rfl _ _ (w.heap.size + 1 + 1) 24 _ (0, 0) _ rfl B2 Try.underlying24 rfl (by kernel_rfl)) rfl ⟨rfl, HB2⟩
  · by_cases h2 : g.k = 2
    · rw [if_neg (fun h => h1 h.1), if_neg h1, if_pos h2]
      have h3 : (f.k == 2) = false := by simpa using h1
      obtain ⟨f0, f1, f2, f3⟩ := f
      obtain ⟨g0, g1, g2, g3⟩ := g
      simp only at h1 h2 h3
      subst h2
      clear mf mg wa wb ha hb h1
      show Calls Try.prog 75 #[.agg #[.int .i64 a0, .bool a1, .int .u64 a2, .int .i64 a3], .agg #[.int .i64 b0, .bool b1, .int .u64 b2, .int .i64 b3], .bool up] w fun e w' => e = .returned (.agg #[.int .i64 2, .bool g1, .int .u64 g2, .int .i64 g3]) ∧ Below w.heap.size w w'
      go_enter Try.func75, Try.ntmps75
      go_wp2_with (first
          | (go_at_call 105; (with_reducible refine (HFa.out _).mono ?_); rintro e1 w1 ⟨rfl, hb1⟩; replace BQ := BQ.call hb1; replace BR := BR.call hb1; replace HBd := bl_trans HBd hb1; have hlb := BR.lt; have hlb1 := BQ.lt; obtain ⟨⟨y0, y1, y2, y3⟩, _⟩ := BQ.c4; have BF : Blk (w1.alloc (.cells #[.int .i64 f0, .bool f1, .int .u64 f2, .int .i64 f3] 24)) w1.heap.size 24 #[.int .i64 f0, .bool f1, .int .u64 f2, .int .i64 f3] := Blk.new w1 _ _; replace BR := BR.alloc (.cells #[.int .i64 f0, .bool f1, .int .u64 f2, .int .i64 f3] 24); replace HBd := bl_alloc HBd (.cells #[.int .i64 f0, .bool f1, .int .u64 f2, .int .i64 f3] 24); clear hb1)
          | (go_at_call 105; (with_reducible refine (HFb.out _).mono ?_); rintro e2 w2 ⟨rfl, hb2⟩; replace BF := BF.call hb2; replace BR := BR.call hb2; replace HBd := bl_trans HBd hb2; clear hlb hlb1 BQ hb2; have hgf := BF.lt; have hlr := BR.lt; obtain ⟨⟨x0, x1, x2, x3⟩, _⟩ := BF.c4; obtain ⟨⟨z0, z1, z2, z3⟩, ⟨k0, k1, k2, k3⟩⟩ := BR.c4))
      have B2 := ((((BR.set_ 0 (.int .i64 2)).set_ 1 (.bool g1)).set_ 2 (.int .u64 g2)).set_ 3 (.int .i64 g3)).alloc (.cells #[.int .i64 2, .bool g1, .int .u64 g2, .int .i64 g3] 24)
      have HB2 := bl_alloc (((((HBd.setCell (p := ⟨w.heap.size + 1 + 1, 0, none⟩) (by show w.heap.size ≤ w.heap.size + 1 + 1; omega) (.int .i64 2)).setCell (p := ⟨w.heap.size + 1 + 1, 1, none⟩) (by show w.heap.size ≤ w.heap.size + 1 + 1; omega) (.bool g1)).setCell (p := ⟨w.heap.size + 1 + 1, 2, none⟩) (by show w.heap.size ≤ w.heap.size + 1 + 1; omega) (.int .u64 g2)).setCell (p := ⟨w.heap.size + 1 + 1, 3, none⟩) (by show w.heap.size ≤ w.heap.size + 1 + 1; omega) (.int .i64 g3))) (.cells #[.int .i64 2, .bool g1, .int .u64 g2, .int .i64 g3] 24)
      exact bodyPost_ret (results_cell_row rfl _ _ (w.heap.size + 1 + 1) 24 _ (0, 0) _ rfl B2 Try.underlying24 rfl (by kernel_rfl)) rfl ⟨rfl, HB2⟩
    · rw [if_neg (fun h => h1 h.1), if_neg h1, if_neg h2]
      have h3 : (f.k == 2) = false := by simpa using h1
      have h4 : (g.k == 2) = false := by simpa using h2
      obtain ⟨i, i1, i2, i3, i4, i5⟩ := val_form mf h1 wa ha (by decide) (by decide)
      obtain ⟨j, j1, j2, j3, j4, j5⟩ := val_form mg h2 wb hb (by decide) (by decide)
      have hbd := two_bd (f.n && decide (0 < f.m.toNat)) (g.n && decide (0 < g.m.toNat)) (i := i) (j := j) (e0 := -BB) (B := 2964) (b := 6000) (V := valN f + valN g) (c := 64) i3 j3 (by decide) ⟨by omega, by omega⟩ ⟨by omega, by omega⟩ (by decide) (by rw [i2, j2])
      have HEa := (fun w => r5exact_calls f.k f.n f.m f.e w mf h1 wa (by omega))
      have HEb := (fun w => r5exact_calls g.k g.n g.m g.e w mg h2 wb (by omega))
      have hla : ∀ n', (digs (oddN f.m.toNat)).length = n' → n' ≤ 8 := fun n' h => len_one (a := 64) i3 (by decide) h
      have hlb2 : ∀ n', (digs (oddN g.m.toNat)).length = n' → n' ≤ 8 := fun n' h => len_one (a := 64) j3 (by decide) h
      have HTw := (fun A3 n3 c3 A4 n4 c4 W h h' hn hm hc hd => r3two_calls (f.n && decide (0 < f.m.toNat)) (g.n && decide (0 < g.m.toNat)) A3 n3 c3 (digs (oddN f.m.toNat)) (dyE f.m.toNat f.e) A4 n4 c4 (digs (oddN g.m.toNat)) (dyE g.m.toNat g.e) W h h' hn hm hc hd (by omega) (by omega) (-BB) i j i1 j1)
      rw [valL_digs, valL_digs, ← i2, ← j2] at HTw
      generalize valN f + valN g = V at HTw hbd ⊢
      obtain ⟨bd1, bd2, bd3⟩ := hbd
      have HRo := (fun A5 n5 c5 W h hn hc => r5round_calls (decide (V < 0) && decide (0 < V.natAbs)) A5 n5 c5 (digs (oddN V.natAbs)) (dyE V.natAbs (-BB)) up W h hn hc (by omega) (by omega))
      rw [valL_digs, add_round] at HRo
      have hl5 : ∀ n', (digs (oddN V.natAbs)).length = n' → n' ≤ 1000 := fun n' h => len_one bd1 (by decide) h
      unfold RetDy at HTw
      unfold RetEx at HEa HEb
      generalize roundAt _ _ _ up = r at HRo ⊢
      obtain ⟨r0, r1, r2, r3⟩ := r
      generalize (decide (V < 0) && decide (0 < V.natAbs)) = sv at HTw HRo
      generalize dyE V.natAbs (-BB) = pv at HTw HRo
      generalize oddN V.natAbs = OV at HTw HRo hl5
      generalize (f.n && decide (0 < f.m.toNat)) = sa at HEa HTw
      generalize dyE f.m.toNat f.e = pa at HEa HTw
      generalize oddN f.m.toNat = Of at HEa HTw hla
      generalize (g.n && decide (0 < g.m.toNat)) = sb at HEb HTw
      generalize dyE g.m.toNat g.e = pb at HEb HTw
      generalize oddN g.m.toNat = Og at HEb HTw hlb2
      clear i1 i2 i3 i4 i5 j1 j2 j3 j4 j5 mf mg wa wb ha hb h1 h2
      obtain ⟨f0, f1, f2, f3⟩ := f
      obtain ⟨g0, g1, g2, g3⟩ := g
      simp only at HEa HEb h3 h4
      replace HEa := Lib.hid HEa
      replace HEb := Lib.hid HEb
      replace HTw := Lib.hid HTw
      replace HRo := Lib.hid HRo
      replace hl5 := Lib.hid hl5
      replace hla := Lib.hid hla
      replace hlb2 := Lib.hid hlb2
      show Calls Try.prog 75 #[.agg #[.int .i64 a0, .bool a1, .int .u64 a2, .int .i64 a3], .agg #[.int .i64 b0, .bool b1, .int .u64 b2, .int .i64 b3], .bool up] w fun e w' => e = .returned (.agg #[.int .i64 r0, .bool r1, .int .u64 r2, .int .i64 r3]) ∧ Below w.heap.size w w'
      go_enter Try.func75, Try.ntmps75
      go_wp2_with (first
          | (go_at_call 105; (with_reducible refine (HFa.out _).mono ?_); rintro e1 w1 ⟨rfl, hb1⟩; replace BQ := BQ.call hb1; replace BR := BR.call hb1; replace HBd := bl_trans HBd hb1; have hlb := BR.lt; have hlb1 := BQ.lt; obtain ⟨⟨y0, y1, y2, y3⟩, _⟩ := BQ.c4; have BF : Blk (w1.alloc (.cells #[.int .i64 f0, .bool f1, .int .u64 f2, .int .i64 f3] 24)) w1.heap.size 24 #[.int .i64 f0, .bool f1, .int .u64 f2, .int .i64 f3] := Blk.new w1 _ _; replace BR := BR.alloc (.cells #[.int .i64 f0, .bool f1, .int .u64 f2, .int .i64 f3] 24); replace HBd := bl_alloc HBd (.cells #[.int .i64 f0, .bool f1, .int .u64 f2, .int .i64 f3] 24); clear hb1)
          | (go_at_call 105; (with_reducible refine (HFb.out _).mono ?_); rintro e2 w2 ⟨rfl, hb2⟩; replace BF := BF.call hb2; replace BR := BR.call hb2; replace HBd := bl_trans HBd hb2; clear hlb hlb1 BQ hb2; have hgf := BF.lt; have hlr := BR.lt; obtain ⟨⟨x0, x1, x2, x3⟩, _⟩ := BF.c4; obtain ⟨⟨z0, z1, z2, z3⟩, ⟨k0, k1, k2, k3⟩⟩ := BR.c4)
          | (go_at_call 108; (with_reducible refine (HEa.out _).mono ?_); rintro e3 w3 ⟨A3, n3, c3, rfl, hc3, S3, hb3⟩; have BG : Blk (w2.alloc (.cells #[.int .i64 g0, .bool g1, .int .u64 g2, .int .i64 g3] 24)) w2.heap.size 24 #[.int .i64 g0, .bool g1, .int .u64 g2, .int .i64 g3] := Blk.new w2 _ _; replace BG := BG.call hb3; replace BR := (BR.alloc (.cells #[.int .i64 g0, .bool g1, .int .u64 g2, .int .i64 g3] 24)).call hb3; replace HBd := bl_trans (bl_alloc HBd (.cells #[.int .i64 g0, .bool g1, .int .u64 g2, .int .i64 g3] 24)) hb3; have hn3 := hla.out n3 S3.1; replace S3 := Lib.hid (S3.on (bl_alloc (Below.refl _ _) (.cells #[.bool sa, .slice A3 n3 c3, .int .i64 pa] 115))); have BP : Blk (w3.alloc (.cells #[.bool sa, .slice A3 n3 c3, .int .i64 pa] 115)) w3.heap.size 115 #[.bool sa, .slice A3 n3 c3, .int .i64 pa] := Blk.new w3 _ _; clear x0 x1 x2 x3 z0 z1 z2 z3 k0 k1 k2 k3 hlr hgf BF; have hlg := BG.lt; obtain ⟨⟨x0, x1, x2, x3⟩, _⟩ := BG.c4; replace BR := BR.alloc (.cells #[.bool sa, .slice A3 n3 c3, .int .i64 pa] 115); replace HBd := bl_alloc HBd (.cells #[.bool sa, .slice A3 n3 c3, .int .i64 pa] 115); clear hb3)
          | (go_at_call 108; (with_reducible refine (HEb.out _).mono ?_); rintro e4 w4 ⟨A4, n4, c4, rfl, hc4, S4, hb4⟩; replace BP := BP.call hb4; replace BR := (BR.call hb4).alloc (.cells #[.bool sb, .slice A4 n4 c4, .int .i64 pb] 115); replace HBd := bl_alloc (bl_trans HBd hb4) (.cells #[.bool sb, .slice A4 n4 c4, .int .i64 pb] 115); have hn4 := hlb2.out n4 S4.1; replace S3 := Lib.hid ((S3.out.on hb4).on (bl_alloc (Below.refl _ _) (.cells #[.bool sb, .slice A4 n4 c4, .int .i64 pb] 115))); replace S4 := Lib.hid (S4.on (bl_alloc (Below.refl _ _) (.cells #[.bool sb, .slice A4 n4 c4, .int .i64 pb] 115))); have hlp := BP.lt; obtain ⟨p0, p1, p2⟩ : w4.cell? ⟨w3.heap.size, 0, none⟩ = some (.bool sa) ∧ w4.cell? ⟨w3.heap.size, 1, none⟩ = some (.slice A3 n3 c3) ∧ w4.cell? ⟨w3.heap.size, 2, none⟩ = some (.int .i64 pa) := ⟨BP.cell 0, BP.cell 1, BP.cell 2⟩; clear hb4 BG hlg x0 x1 x2 x3)
          | (go_at_call 110; (with_reducible refine (HTw.out A3 n3 c3 A4 n4 c4 _ S3.out S4.out hn3 hn4 hc3 hc4).mono ?_); rintro e5 w5 ⟨A5, n5, c5, rfl, hc5, S5, hb5⟩; replace BR := BR.call hb5; replace HBd := bl_trans HBd hb5; have hn5 := hl5.out n5 S5.1; replace S5 := Lib.hid S5; clear hb5 BP p0 p1 p2 hlp)
          | (go_at_call 109; (with_reducible refine (HRo.out A5 n5 c5 _ S5.out hn5 hc5).mono ?_); rintro e6 w6 ⟨rfl, hb6⟩; replace BR := BR.call hb6; replace HBd := bl_trans HBd hb6; have hlr := BR.lt; obtain ⟨⟨z0, z1, z2, z3⟩, ⟨k0, k1, k2, k3⟩⟩ := BR.c4; clear hb6))
      have B2 := ((((BR.set_ 0 (.int .i64 r0)).set_ 1 (.bool r1)).set_ 2 (.int .u64 r2)).set_ 3 (.int .i64 r3))
      have HB2 := ((((HBd.setCell (p := ⟨w.heap.size + 1 + 1, 0, none⟩) (by show w.heap.size ≤ w.heap.size + 1 + 1; omega) (.int .i64 r0)).setCell (p := ⟨w.heap.size + 1 + 1, 1, none⟩) (by show w.heap.size ≤ w.heap.size + 1 + 1; omega) (.bool r1)).setCell (p := ⟨w.heap.size + 1 + 1, 2, none⟩) (by show w.heap.size ≤ w.heap.size + 1 + 1; omega) (.int .u64 r2)).setCell (p := ⟨w.heap.size + 1 + 1, 3, none⟩) (by show w.heap.size ≤ w.heap.size + 1 + 1; omega) (.int .i64 r3))
      exact bodyPost_ret (results_cell_row rfl _ _ (w.heap.size + 1 + 1) 24 _ (0, 0) _ rfl B2 Try.underlying24 rfl (by kernel_rfl)) rfl ⟨rfl, HB2⟩
end Go.Proofs.Ytagojbgmgkkdpaa.Wk
