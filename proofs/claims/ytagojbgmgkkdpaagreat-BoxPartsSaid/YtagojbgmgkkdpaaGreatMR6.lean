import Derived.Test.YtagojbgmgkkdpaaGreatMR5
import Derived.Test.YtagojbgmgkkdpaaGreatMRa
/- Walk: the reference's sum. -/
namespace Go.Proofs.YtagojbgmgkkdpaaGreat.Wk
open Go.RowKit Go.Proofs.Pl Go.Proofs.YtagojbgmgkkdpaaGreatW.PrintLast
set_option linter.unusedSimpArgs false
set_option linter.unusedVariables false

set_option maxRecDepth 100000 in
set_option maxHeartbeats 4000000 in
theorem r6add_calls (a0 : Int) (a1 : Bool) (a2 a3 : Int) (b0 : Int) (b1 : Bool) (b2 b3 : Int) (up : Bool) (w : World) (wa : Wf ⟨a0, a1, a2, a3⟩) (wb : Wf ⟨b0, b1, b2, b3⟩) (ha : FewE ⟨a0, a1, a2, a3⟩ 2900) (hb : FewE ⟨b0, b1, b2, b3⟩ 2900) :
  Calls Tryz.prog 79 #[.agg #[.int .i64 a0, .bool a1, .int .u64 a2, .int .i64 a3], .agg #[.int .i64 b0, .bool b1, .int .u64 b2, .int .i64 b3], .bool up] w fun e w' => e = .returned (.agg #[.int .i64 (addN ⟨a0, a1, a2, a3⟩ ⟨b0, b1, b2, b3⟩ up).k, .bool (addN ⟨a0, a1, a2, a3⟩ ⟨b0, b1, b2, b3⟩ up).n, .int .u64 (addN ⟨a0, a1, a2, a3⟩ ⟨b0, b1, b2, b3⟩ up).m, .int .i64 (addN ⟨a0, a1, a2, a3⟩ ⟨b0, b1, b2, b3⟩ up).e]) ∧ Below w.heap.size w w' := by
 have HFa := Lib.hid (r6fairN_calls a0 a1 a2 a3)
 have HFb := Lib.hid (r6fairN_calls b0 b1 b2 b3)
 have mf := mayN_fair ⟨a0, a1, a2, a3⟩
 have mg := mayN_fair ⟨b0, b1, b2, b3⟩
 replace wa := fairN_wf wa
 replace wb := fairN_wf wb
 unfold FewE at ha hb
 unfold addN
 generalize fairN ⟨a0, a1, a2, a3⟩ = f at *
 generalize fairN ⟨b0, b1, b2, b3⟩ = g at *
 replace HFa : Hid (∀ w, Calls Tryz.prog 80 #[.agg #[.int .i64 a0, .bool a1, .int .u64 a2, .int .i64 a3]] w fun e w' => e = .returned (.agg #[.int .i64 f.k, .bool f.n, .int .u64 f.m, .int .i64 f.e]) ∧ Below w.heap.size w w') := HFa
 replace HFb : Hid (∀ w, Calls Tryz.prog 80 #[.agg #[.int .i64 b0, .bool b1, .int .u64 b2, .int .i64 b3]] w fun e w' => e = .returned (.agg #[.int .i64 g.k, .bool g.n, .int .u64 g.m, .int .i64 g.e]) ∧ Below w.heap.size w w') := HFb
 have BQ : Blk _ (w.heap.size + 1) 37 #[.int .i64 b0, .bool b1, .int .u64 b2, .int .i64 b3] := Blk.alloc (Blk.new1 w (.cells #[.int .i64 a0, .bool a1, .int .u64 a2, .int .i64 a3] 37) _ _) (.cells #[.int .i64 0, .bool false, .int .u64 0, .int .i64 0] 37)
 have BR : Blk _ (w.heap.size + 1 + 1) 37 #[.int .i64 0, .bool false, .int .u64 0, .int .i64 0] := Blk.new2 w (.cells #[.int .i64 a0, .bool a1, .int .u64 a2, .int .i64 a3] 37) (.cells #[.int .i64 b0, .bool b1, .int .u64 b2, .int .i64 b3] 37) _ _
 have HBd := (bl_alloc (bl_alloc (bl_alloc (Below.refl w.heap.size w) (.cells #[.int .i64 a0, .bool a1, .int .u64 a2, .int .i64 a3] 37)) (.cells #[.int .i64 b0, .bool b1, .int .u64 b2, .int .i64 b3] 37)) (.cells #[.int .i64 0, .bool false, .int .u64 0, .int .i64 0] 37))
 unfold addF
 by_cases h1 : f.k = 2
 ·by_cases h2 : g.k = 2 ∧ f.n ≠ g.n
  ·rw [if_pos ⟨h1, h2.1, h2.2⟩]
   have HI := Lib.hid (fun w => rinfN_lit (!up) w)
   obtain ⟨h2, h3⟩ := h2
   obtain ⟨f0, f1, f2, f3⟩ := f
   obtain ⟨g0, g1, g2, g3⟩ := g
   simp only at h1 h2 h3
   subst h1 h2
   obtain rfl : g1 = !f1 := by cases f1 <;> cases g1 <;> simp_all
   clear mf mg wa wb ha hb h3
   show Calls Tryz.prog 79 #[.agg #[.int .i64 a0, .bool a1, .int .u64 a2, .int .i64 a3], .agg #[.int .i64 b0, .bool b1, .int .u64 b2, .int .i64 b3], .bool up] w fun e w' => e = .returned (.agg #[.int .i64 2, .bool (!up), .int .u64 0, .int .i64 0]) ∧ Below w.heap.size w w'
   go_enter Tryz.func79, Tryz.ntmps79
   go_wp2_with (first
     | (go_at_call 80; (with_reducible refine (HFa.out _).mono ?_); rintro e1 w1 ⟨rfl, hb1⟩; replace BQ := BQ.call hb1; replace BR := BR.call hb1; replace HBd := bl_trans HBd hb1; have hlb := BR.lt; have hlb1 := BQ.lt; obtain ⟨⟨y0, y1, y2, y3⟩, _⟩ := BQ.c4; have BF : Blk (w1.alloc (.cells #[.int .i64 2, .bool f1, .int .u64 f2, .int .i64 f3] 37)) w1.heap.size 37 #[.int .i64 2, .bool f1, .int .u64 f2, .int .i64 f3] := Blk.new w1 _ _; replace BR := BR.alloc (.cells #[.int .i64 2, .bool f1, .int .u64 f2, .int .i64 f3] 37); replace HBd := bl_alloc HBd (.cells #[.int .i64 2, .bool f1, .int .u64 f2, .int .i64 f3] 37); clear hb1)
     | (go_at_call 80; (with_reducible refine (HFb.out _).mono ?_); rintro e2 w2 ⟨rfl, hb2⟩; replace BF := BF.call hb2; replace BR := BR.call hb2; replace HBd := bl_trans HBd hb2; clear hlb hlb1 BQ hb2; have hgf := BF.lt; have hlr := BR.lt; obtain ⟨⟨x0, x1, x2, x3⟩, _⟩ := BF.c4; obtain ⟨⟨z0, z1, z2, z3⟩, ⟨k0, k1, k2, k3⟩⟩ := BR.c4)
     | (go_at_call 107; (with_reducible refine (HI.out _).mono ?_); rintro e3 w3 ⟨rfl, hb3⟩; replace BR := (BR.alloc (.cells #[.int .i64 2, .bool (!f1), .int .u64 g2, .int .i64 g3] 37)).call hb3; replace HBd := bl_trans (bl_alloc HBd (.cells #[.int .i64 2, .bool (!f1), .int .u64 g2, .int .i64 g3] 37)) hb3; clear z0 z1 z2 z3 k0 k1 k2 k3 hlr; have hlr := BR.lt; obtain ⟨⟨z0, z1, z2, z3⟩, ⟨k0, k1, k2, k3⟩⟩ := BR.c4))
   have B2 := ((((BR.set_ 0 (.int .i64 2)).set_ 1 (.bool (!up))).set_ 2 (.int .u64 0)).set_ 3 (.int .i64 0))
   have HB2 := ((((HBd.setCell (p := ⟨w.heap.size + 1 + 1, 0, none⟩) (by show w.heap.size ≤ w.heap.size + 1 + 1; omega) (.int .i64 2)).setCell (p := ⟨w.heap.size + 1 + 1, 1, none⟩) (by show w.heap.size ≤ w.heap.size + 1 + 1; omega) (.bool (!up))).setCell (p := ⟨w.heap.size + 1 + 1, 2, none⟩) (by show w.heap.size ≤ w.heap.size + 1 + 1; omega) (.int .u64 0)).setCell (p := ⟨w.heap.size + 1 + 1, 3, none⟩) (by show w.heap.size ≤ w.heap.size + 1 + 1; omega) (.int .i64 0))
   exact bodyPost_ret (results_cell_row rfl _ _ (w.heap.size + 1 + 1) 37 _ (0, 0) _ rfl B2 Tryz.underlying37 rfl (by kernel_rfl)) rfl ⟨rfl, HB2⟩
  ·rw [if_neg (fun h => h2 h.2), if_pos h1]
   have h3 : (g.k == 2) = false ∨ (g.k = 2 ∧ g.n = f.n) := by
    by_cases h : g.k = 2
    ·refine .inr ⟨h, ?_⟩
     cases hf : f.n <;> cases hg : g.n <;> simp_all
    ·exact .inl (by simpa using h)
   obtain ⟨f0, f1, f2, f3⟩ := f
   obtain ⟨g0, g1, g2, g3⟩ := g
   simp only at h1 h2 h3
   subst h1
   clear mf mg wa wb ha hb h2
   show Calls Tryz.prog 79 #[.agg #[.int .i64 a0, .bool a1, .int .u64 a2, .int .i64 a3], .agg #[.int .i64 b0, .bool b1, .int .u64 b2, .int .i64 b3], .bool up] w fun e w' => e = .returned (.agg #[.int .i64 2, .bool f1, .int .u64 f2, .int .i64 f3]) ∧ Below w.heap.size w w'
   rcases h3 with h3 | ⟨rfl, rfl⟩
   ·skip
    go_enter Tryz.func79, Tryz.ntmps79
    go_wp2_with (first
      | (go_at_call 80; (with_reducible refine (HFa.out _).mono ?_); rintro e1 w1 ⟨rfl, hb1⟩; replace BQ := BQ.call hb1; replace BR := BR.call hb1; replace HBd := bl_trans HBd hb1; have hlb := BR.lt; have hlb1 := BQ.lt; obtain ⟨⟨y0, y1, y2, y3⟩, _⟩ := BQ.c4; have BF : Blk (w1.alloc (.cells #[.int .i64 2, .bool f1, .int .u64 f2, .int .i64 f3] 37)) w1.heap.size 37 #[.int .i64 2, .bool f1, .int .u64 f2, .int .i64 f3] := Blk.new w1 _ _; replace BR := BR.alloc (.cells #[.int .i64 2, .bool f1, .int .u64 f2, .int .i64 f3] 37); replace HBd := bl_alloc HBd (.cells #[.int .i64 2, .bool f1, .int .u64 f2, .int .i64 f3] 37); clear hb1)
      | (go_at_call 80; (with_reducible refine (HFb.out _).mono ?_); rintro e2 w2 ⟨rfl, hb2⟩; replace BF := BF.call hb2; replace BR := BR.call hb2; replace HBd := bl_trans HBd hb2; clear hlb hlb1 BQ hb2; have hgf := BF.lt; have hlr := BR.lt; obtain ⟨⟨x0, x1, x2, x3⟩, _⟩ := BF.c4; obtain ⟨⟨z0, z1, z2, z3⟩, ⟨k0, k1, k2, k3⟩⟩ := BR.c4))
    have B2 := ((((BR.set_ 0 (.int .i64 2)).set_ 1 (.bool f1)).set_ 2 (.int .u64 f2)).set_ 3 (.int .i64 f3)).alloc (.cells #[.int .i64 g0, .bool g1, .int .u64 g2, .int .i64 g3] 37)
    have HB2 := bl_alloc (((((HBd.setCell (p := ⟨w.heap.size + 1 + 1, 0, none⟩) (by show w.heap.size ≤ w.heap.size + 1 + 1; omega) (.int .i64 2)).setCell (p := ⟨w.heap.size + 1 + 1, 1, none⟩) (by show w.heap.size ≤ w.heap.size + 1 + 1; omega) (.bool f1)).setCell (p := ⟨w.heap.size + 1 + 1, 2, none⟩) (by show w.heap.size ≤ w.heap.size + 1 + 1; omega) (.int .u64 f2)).setCell (p := ⟨w.heap.size + 1 + 1, 3, none⟩) (by show w.heap.size ≤ w.heap.size + 1 + 1; omega) (.int .i64 f3))) (.cells #[.int .i64 g0, .bool g1, .int .u64 g2, .int .i64 g3] 37)
    exact bodyPost_ret (results_cell_row rfl _ _ (w.heap.size + 1 + 1) 37 _ (0, 0) _ rfl B2 Tryz.underlying37 rfl (by kernel_rfl)) rfl ⟨rfl, HB2⟩
   ·skip
    go_enter Tryz.func79, Tryz.ntmps79
    go_wp2_with (first
      | (go_at_call 80; (with_reducible refine (HFa.out _).mono ?_); rintro e1 w1 ⟨rfl, hb1⟩; replace BQ := BQ.call hb1; replace BR := BR.call hb1; replace HBd := bl_trans HBd hb1; have hlb := BR.lt; have hlb1 := BQ.lt; obtain ⟨⟨y0, y1, y2, y3⟩, _⟩ := BQ.c4; have BF : Blk (w1.alloc (.cells #[.int .i64 2, .bool g1, .int .u64 f2, .int .i64 f3] 37)) w1.heap.size 37 #[.int .i64 2, .bool g1, .int .u64 f2, .int .i64 f3] := Blk.new w1 _ _; replace BR := BR.alloc (.cells #[.int .i64 2, .bool g1, .int .u64 f2, .int .i64 f3] 37); replace HBd := bl_alloc HBd (.cells #[.int .i64 2, .bool g1, .int .u64 f2, .int .i64 f3] 37); clear hb1)
      | (go_at_call 80; (with_reducible refine (HFb.out _).mono ?_); rintro e2 w2 ⟨rfl, hb2⟩; replace BF := BF.call hb2; replace BR := BR.call hb2; replace HBd := bl_trans HBd hb2; clear hlb hlb1 BQ hb2; have hgf := BF.lt; have hlr := BR.lt; obtain ⟨⟨x0, x1, x2, x3⟩, _⟩ := BF.c4; obtain ⟨⟨z0, z1, z2, z3⟩, ⟨k0, k1, k2, k3⟩⟩ := BR.c4))
    have B2 := ((((BR.set_ 0 (.int .i64 2)).set_ 1 (.bool g1)).set_ 2 (.int .u64 f2)).set_ 3 (.int .i64 f3)).alloc (.cells #[.int .i64 2, .bool g1, .int .u64 g2, .int .i64 g3] 37)
    have HB2 := bl_alloc (((((HBd.setCell (p := ⟨w.heap.size + 1 + 1, 0, none⟩) (by show w.heap.size ≤ w.heap.size + 1 + 1; omega) (.int .i64 2)).setCell (p := ⟨w.heap.size + 1 + 1, 1, none⟩) (by show w.heap.size ≤ w.heap.size + 1 + 1; omega) (.bool g1)).setCell (p := ⟨w.heap.size + 1 + 1, 2, none⟩) (by show w.heap.size ≤ w.heap.size + 1 + 1; omega) (.int .u64 f2)).setCell (p := ⟨w.heap.size + 1 + 1, 3, none⟩) (by show w.heap.size ≤ w.heap.size + 1 + 1; omega) (.int .i64 f3))) (.cells #[.int .i64 2, .bool g1, .int .u64 g2, .int .i64 g3] 37)
    exact bodyPost_ret (results_cell_row rfl _ _ (w.heap.size + 1 + 1) 37 _ (0, 0) _ rfl B2 Tryz.underlying37 rfl (by kernel_rfl)) rfl ⟨rfl, HB2⟩
 ·by_cases h2 : g.k = 2
  ·rw [if_neg (fun h => h1 h.1), if_neg h1, if_pos h2]
   have h3 : (f.k == 2) = false := by simpa using h1
   obtain ⟨f0, f1, f2, f3⟩ := f
   obtain ⟨g0, g1, g2, g3⟩ := g
   simp only at h1 h2 h3
   subst h2
   clear mf mg wa wb ha hb h1
   show Calls Tryz.prog 79 #[.agg #[.int .i64 a0, .bool a1, .int .u64 a2, .int .i64 a3], .agg #[.int .i64 b0, .bool b1, .int .u64 b2, .int .i64 b3], .bool up] w fun e w' => e = .returned (.agg #[.int .i64 2, .bool g1, .int .u64 g2, .int .i64 g3]) ∧ Below w.heap.size w w'
   go_enter Tryz.func79, Tryz.ntmps79
   go_wp2_with (first
     | (go_at_call 80; (with_reducible refine (HFa.out _).mono ?_); rintro e1 w1 ⟨rfl, hb1⟩; replace BQ := BQ.call hb1; replace BR := BR.call hb1; replace HBd := bl_trans HBd hb1; have hlb := BR.lt; have hlb1 := BQ.lt; obtain ⟨⟨y0, y1, y2, y3⟩, _⟩ := BQ.c4; have BF : Blk (w1.alloc (.cells #[.int .i64 f0, .bool f1, .int .u64 f2, .int .i64 f3] 37)) w1.heap.size 37 #[.int .i64 f0, .bool f1, .int .u64 f2, .int .i64 f3] := Blk.new w1 _ _; replace BR := BR.alloc (.cells #[.int .i64 f0, .bool f1, .int .u64 f2, .int .i64 f3] 37); replace HBd := bl_alloc HBd (.cells #[.int .i64 f0, .bool f1, .int .u64 f2, .int .i64 f3] 37); clear hb1)
     | (go_at_call 80; (with_reducible refine (HFb.out _).mono ?_); rintro e2 w2 ⟨rfl, hb2⟩; replace BF := BF.call hb2; replace BR := BR.call hb2; replace HBd := bl_trans HBd hb2; clear hlb hlb1 BQ hb2; have hgf := BF.lt; have hlr := BR.lt; obtain ⟨⟨x0, x1, x2, x3⟩, _⟩ := BF.c4; obtain ⟨⟨z0, z1, z2, z3⟩, ⟨k0, k1, k2, k3⟩⟩ := BR.c4))
   have B2 := ((((BR.set_ 0 (.int .i64 2)).set_ 1 (.bool g1)).set_ 2 (.int .u64 g2)).set_ 3 (.int .i64 g3)).alloc (.cells #[.int .i64 2, .bool g1, .int .u64 g2, .int .i64 g3] 37)
   have HB2 := bl_alloc (((((HBd.setCell (p := ⟨w.heap.size + 1 + 1, 0, none⟩) (by show w.heap.size ≤ w.heap.size + 1 + 1; omega) (.int .i64 2)).setCell (p := ⟨w.heap.size + 1 + 1, 1, none⟩) (by show w.heap.size ≤ w.heap.size + 1 + 1; omega) (.bool g1)).setCell (p := ⟨w.heap.size + 1 + 1, 2, none⟩) (by show w.heap.size ≤ w.heap.size + 1 + 1; omega) (.int .u64 g2)).setCell (p := ⟨w.heap.size + 1 + 1, 3, none⟩) (by show w.heap.size ≤ w.heap.size + 1 + 1; omega) (.int .i64 g3))) (.cells #[.int .i64 2, .bool g1, .int .u64 g2, .int .i64 g3] 37)
   exact bodyPost_ret (results_cell_row rfl _ _ (w.heap.size + 1 + 1) 37 _ (0, 0) _ rfl B2 Tryz.underlying37 rfl (by kernel_rfl)) rfl ⟨rfl, HB2⟩
  ·rw [if_neg (fun h => h1 h.1), if_neg h1, if_neg h2]
   have h3 : (f.k == 2) = false := by simpa using h1
   have h4 : (g.k == 2) = false := by simpa using h2
   obtain ⟨i, i1, i2, i3, i4, i5⟩ := val_form mf h1 wa ha (by decide) (by decide)
   obtain ⟨j, j1, j2, j3, j4, j5⟩ := val_form mg h2 wb hb (by decide) (by decide)
   have hbd := two_bd (f.n && decide (0 < f.m.toNat)) (g.n && decide (0 < g.m.toNat)) (i := i) (j := j) (e0 := -BB) (B := 2964) (b := 6000) (V := valN f + valN g) (c := 64) i3 j3 (by decide) ⟨by omega, by omega⟩ ⟨by omega, by omega⟩ (by decide) (by rw [i2, j2])
   have HEa := (fun w => r5exact_calls f.k f.n f.m f.e w mf h1 wa (by omega))
   have HEb := (fun w => r5exact_calls g.k g.n g.m g.e w mg h2 wb (by omega))
   have hla : ∀ n', (digs (oddN f.m.toNat)).length = n' → n' ≤ 8 := fun n' h => len_one (a := 64) i3 (by decide) h
   have hlb2 : ∀ n', (digs (oddN g.m.toNat)).length = n' → n' ≤ 8 := fun n' h => len_one (a := 64) j3 (by decide) h
   have HTw := (fun A3 n3 c3 A4 n4 c4 W h h' hn hm hc hd => r3two_calls (f.n && decide (0 < f.m.toNat)) (g.n && decide (0 < g.m.toNat)) A3 n3 c3 (digs (oddN f.m.toNat)) (dyE f.m.toNat f.e) A4 n4 c4 (digs (oddN g.m.toNat)) (dyE g.m.toNat g.e) W h h' hn hm hc hd (by omega) (by omega) (-BB) i j i1 j1)
   rw [valL_digs, valL_digs, ← i2, ← j2] at HTw
   generalize valN f + valN g = V at HTw hbd ⊢
   obtain ⟨bd1, bd2, bd3⟩ := hbd
   have HRo := (fun A5 n5 c5 W h hn hc => r5round_calls (decide (V < 0) && decide (0 < V.natAbs)) A5 n5 c5 (digs (oddN V.natAbs)) (dyE V.natAbs (-BB)) up W h hn hc (by omega) (by omega))
   rw [valL_digs, add_round] at HRo
   have hl5 : ∀ n', (digs (oddN V.natAbs)).length = n' → n' ≤ 1000 := fun n' h => len_one bd1 (by decide) h
   unfold RetDy at HTw
   unfold RetEx at HEa HEb
   generalize roundAt _ _ _ up = r at HRo ⊢
   obtain ⟨r0, r1, r2, r3⟩ := r
   generalize (decide (V < 0) && decide (0 < V.natAbs)) = sv at HTw HRo
   generalize dyE V.natAbs (-BB) = pv at HTw HRo
   generalize oddN V.natAbs = OV at HTw HRo hl5
   generalize (f.n && decide (0 < f.m.toNat)) = sa at HEa HTw
   generalize dyE f.m.toNat f.e = pa at HEa HTw
   generalize oddN f.m.toNat = Of at HEa HTw hla
   generalize (g.n && decide (0 < g.m.toNat)) = sb at HEb HTw
   generalize dyE g.m.toNat g.e = pb at HEb HTw
   generalize oddN g.m.toNat = Og at HEb HTw hlb2
   clear i1 i2 i3 i4 i5 j1 j2 j3 j4 j5 mf mg wa wb ha hb h1 h2
   obtain ⟨f0, f1, f2, f3⟩ := f
   obtain ⟨g0, g1, g2, g3⟩ := g
   simp only at HEa HEb h3 h4
   replace HEa := Lib.hid HEa
   replace HEb := Lib.hid HEb
   replace HTw := Lib.hid HTw
   replace HRo := Lib.hid HRo
   replace hl5 := Lib.hid hl5
   replace hla := Lib.hid hla
   replace hlb2 := Lib.hid hlb2
   show Calls Tryz.prog 79 #[.agg #[.int .i64 a0, .bool a1, .int .u64 a2, .int .i64 a3], .agg #[.int .i64 b0, .bool b1, .int .u64 b2, .int .i64 b3], .bool up] w fun e w' => e = .returned (.agg #[.int .i64 r0, .bool r1, .int .u64 r2, .int .i64 r3]) ∧ Below w.heap.size w w'
   go_enter Tryz.func79, Tryz.ntmps79
   go_wp2_with (first
     | (go_at_call 80; (with_reducible refine (HFa.out _).mono ?_); rintro e1 w1 ⟨rfl, hb1⟩; replace BQ := BQ.call hb1; replace BR := BR.call hb1; replace HBd := bl_trans HBd hb1; have hlb := BR.lt; have hlb1 := BQ.lt; obtain ⟨⟨y0, y1, y2, y3⟩, _⟩ := BQ.c4; have BF : Blk (w1.alloc (.cells #[.int .i64 f0, .bool f1, .int .u64 f2, .int .i64 f3] 37)) w1.heap.size 37 #[.int .i64 f0, .bool f1, .int .u64 f2, .int .i64 f3] := Blk.new w1 _ _; replace BR := BR.alloc (.cells #[.int .i64 f0, .bool f1, .int .u64 f2, .int .i64 f3] 37); replace HBd := bl_alloc HBd (.cells #[.int .i64 f0, .bool f1, .int .u64 f2, .int .i64 f3] 37); clear hb1)
     | (go_at_call 80; (with_reducible refine (HFb.out _).mono ?_); rintro e2 w2 ⟨rfl, hb2⟩; replace BF := BF.call hb2; replace BR := BR.call hb2; replace HBd := bl_trans HBd hb2; clear hlb hlb1 BQ hb2; have hgf := BF.lt; have hlr := BR.lt; obtain ⟨⟨x0, x1, x2, x3⟩, _⟩ := BF.c4; obtain ⟨⟨z0, z1, z2, z3⟩, ⟨k0, k1, k2, k3⟩⟩ := BR.c4)
     | (go_at_call 109; (with_reducible refine (HEa.out _).mono ?_); rintro e3 w3 ⟨A3, n3, c3, rfl, hc3, S3, hb3⟩; have BG : Blk (w2.alloc (.cells #[.int .i64 g0, .bool g1, .int .u64 g2, .int .i64 g3] 37)) w2.heap.size 37 #[.int .i64 g0, .bool g1, .int .u64 g2, .int .i64 g3] := Blk.new w2 _ _; replace BG := BG.call hb3; replace BR := (BR.alloc (.cells #[.int .i64 g0, .bool g1, .int .u64 g2, .int .i64 g3] 37)).call hb3; replace HBd := bl_trans (bl_alloc HBd (.cells #[.int .i64 g0, .bool g1, .int .u64 g2, .int .i64 g3] 37)) hb3; have hn3 := hla.out n3 S3.1; replace S3 := Lib.hid (S3.on (bl_alloc (Below.refl _ _) (.cells #[.bool sa, .slice A3 n3 c3, .int .i64 pa] 128))); have BP : Blk (w3.alloc (.cells #[.bool sa, .slice A3 n3 c3, .int .i64 pa] 128)) w3.heap.size 128 #[.bool sa, .slice A3 n3 c3, .int .i64 pa] := Blk.new w3 _ _; clear x0 x1 x2 x3 z0 z1 z2 z3 k0 k1 k2 k3 hlr hgf BF; have hlg := BG.lt; obtain ⟨⟨x0, x1, x2, x3⟩, _⟩ := BG.c4; replace BR := BR.alloc (.cells #[.bool sa, .slice A3 n3 c3, .int .i64 pa] 128); replace HBd := bl_alloc HBd (.cells #[.bool sa, .slice A3 n3 c3, .int .i64 pa] 128); clear hb3)
     | (go_at_call 109; (with_reducible refine (HEb.out _).mono ?_); rintro e4 w4 ⟨A4, n4, c4, rfl, hc4, S4, hb4⟩; replace BP := BP.call hb4; replace BR := (BR.call hb4).alloc (.cells #[.bool sb, .slice A4 n4 c4, .int .i64 pb] 128); replace HBd := bl_alloc (bl_trans HBd hb4) (.cells #[.bool sb, .slice A4 n4 c4, .int .i64 pb] 128); have hn4 := hlb2.out n4 S4.1; replace S3 := Lib.hid ((S3.out.on hb4).on (bl_alloc (Below.refl _ _) (.cells #[.bool sb, .slice A4 n4 c4, .int .i64 pb] 128))); replace S4 := Lib.hid (S4.on (bl_alloc (Below.refl _ _) (.cells #[.bool sb, .slice A4 n4 c4, .int .i64 pb] 128))); have hlp := BP.lt; obtain ⟨p0, p1, p2⟩ : w4.cell? ⟨w3.heap.size, 0, none⟩ = some (.bool sa) ∧ w4.cell? ⟨w3.heap.size, 1, none⟩ = some (.slice A3 n3 c3) ∧ w4.cell? ⟨w3.heap.size, 2, none⟩ = some (.int .i64 pa) := ⟨BP.cell 0, BP.cell 1, BP.cell 2⟩; clear hb4 BG hlg x0 x1 x2 x3)
     | (go_at_call 111; (with_reducible refine (HTw.out A3 n3 c3 A4 n4 c4 _ S3.out S4.out hn3 hn4 hc3 hc4).mono ?_); rintro e5 w5 ⟨A5, n5, c5, rfl, hc5, S5, hb5⟩; replace BR := BR.call hb5; replace HBd := bl_trans HBd hb5; have hn5 := hl5.out n5 S5.1; replace S5 := Lib.hid S5; clear hb5 BP p0 p1 p2 hlp)
     | (go_at_call 110; (with_reducible refine (HRo.out A5 n5 c5 _ S5.out hn5 hc5).mono ?_); rintro e6 w6 ⟨rfl, hb6⟩; replace BR := BR.call hb6; replace HBd := bl_trans HBd hb6; have hlr := BR.lt; obtain ⟨⟨z0, z1, z2, z3⟩, ⟨k0, k1, k2, k3⟩⟩ := BR.c4; clear hb6))
   have B2 := ((((BR.set_ 0 (.int .i64 r0)).set_ 1 (.bool r1)).set_ 2 (.int .u64 r2)).set_ 3 (.int .i64 r3))
   have HB2 := ((((HBd.setCell (p := ⟨w.heap.size + 1 + 1, 0, none⟩) (by show w.heap.size ≤ w.heap.size + 1 + 1; omega) (.int .i64 r0)).setCell (p := ⟨w.heap.size + 1 + 1, 1, none⟩) (by show w.heap.size ≤ w.heap.size + 1 + 1; omega) (.bool r1)).setCell (p := ⟨w.heap.size + 1 + 1, 2, none⟩) (by show w.heap.size ≤ w.heap.size + 1 + 1; omega) (.int .u64 r2)).setCell (p := ⟨w.heap.size + 1 + 1, 3, none⟩) (by show w.heap.size ≤ w.heap.size + 1 + 1; omega) (.int .i64 r3))
   exact bodyPost_ret (results_cell_row rfl _ _ (w.heap.size + 1 + 1) 37 _ (0, 0) _ rfl B2 Tryz.underlying37 rfl (by kernel_rfl)) rfl ⟨rfl, HB2⟩
end Go.Proofs.YtagojbgmgkkdpaaGreat.Wk

/- Walks: the reference's product, half, difference. -/
namespace Go.Proofs.YtagojbgmgkkdpaaGreat.Wk
open Go.RowKit Go.Proofs.Pl Go.Proofs.YtagojbgmgkkdpaaGreatW.PrintLast
set_option linter.unusedSimpArgs false
set_option linter.unusedVariables false

set_option maxRecDepth 100000 in
set_option maxHeartbeats 4000000 in
theorem r6mul_calls (a0 : Int) (a1 : Bool) (a2 a3 : Int) (b0 : Int) (b1 : Bool) (b2 b3 : Int) (up : Bool) (w : World) (wa : Wf ⟨a0, a1, a2, a3⟩) (wb : Wf ⟨b0, b1, b2, b3⟩) (ha : FewE ⟨a0, a1, a2, a3⟩ 9000) (hb : FewE ⟨b0, b1, b2, b3⟩ 9000) :
  Calls Tryz.prog 108 #[.agg #[.int .i64 a0, .bool a1, .int .u64 a2, .int .i64 a3], .agg #[.int .i64 b0, .bool b1, .int .u64 b2, .int .i64 b3], .bool up] w fun e w' => e = .returned (.agg #[.int .i64 (mulN ⟨a0, a1, a2, a3⟩ ⟨b0, b1, b2, b3⟩ up).k, .bool (mulN ⟨a0, a1, a2, a3⟩ ⟨b0, b1, b2, b3⟩ up).n, .int .u64 (mulN ⟨a0, a1, a2, a3⟩ ⟨b0, b1, b2, b3⟩ up).m, .int .i64 (mulN ⟨a0, a1, a2, a3⟩ ⟨b0, b1, b2, b3⟩ up).e]) ∧ Below w.heap.size w w' := by
 have HFa := Lib.hid (r6fairN_calls a0 a1 a2 a3)
 have HFb := Lib.hid (r6fairN_calls b0 b1 b2 b3)
 have mf := mayN_fair ⟨a0, a1, a2, a3⟩
 have mg := mayN_fair ⟨b0, b1, b2, b3⟩
 replace wa := fairN_wf wa
 replace wb := fairN_wf wb
 unfold FewE at ha hb
 unfold mulN
 generalize fairN ⟨a0, a1, a2, a3⟩ = f at *
 generalize fairN ⟨b0, b1, b2, b3⟩ = g at *
 replace HFa : Hid (∀ w, Calls Tryz.prog 80 #[.agg #[.int .i64 a0, .bool a1, .int .u64 a2, .int .i64 a3]] w fun e w' => e = .returned (.agg #[.int .i64 f.k, .bool f.n, .int .u64 f.m, .int .i64 f.e]) ∧ Below w.heap.size w w') := HFa
 replace HFb : Hid (∀ w, Calls Tryz.prog 80 #[.agg #[.int .i64 b0, .bool b1, .int .u64 b2, .int .i64 b3]] w fun e w' => e = .returned (.agg #[.int .i64 g.k, .bool g.n, .int .u64 g.m, .int .i64 g.e]) ∧ Below w.heap.size w w') := HFb
 have BQ : Blk _ (w.heap.size + 1) 37 #[.int .i64 b0, .bool b1, .int .u64 b2, .int .i64 b3] := Blk.alloc (Blk.new1 w (.cells #[.int .i64 a0, .bool a1, .int .u64 a2, .int .i64 a3] 37) _ _) (.cells #[.int .i64 0, .bool false, .int .u64 0, .int .i64 0] 37)
 have BR : Blk _ (w.heap.size + 1 + 1) 37 #[.int .i64 0, .bool false, .int .u64 0, .int .i64 0] := Blk.new2 w (.cells #[.int .i64 a0, .bool a1, .int .u64 a2, .int .i64 a3] 37) (.cells #[.int .i64 b0, .bool b1, .int .u64 b2, .int .i64 b3] 37) _ _
 have HBd := (bl_alloc (bl_alloc (bl_alloc (Below.refl w.heap.size w) (.cells #[.int .i64 a0, .bool a1, .int .u64 a2, .int .i64 a3] 37)) (.cells #[.int .i64 b0, .bool b1, .int .u64 b2, .int .i64 b3] 37)) (.cells #[.int .i64 0, .bool false, .int .u64 0, .int .i64 0] 37))
 unfold mulF
 by_cases h1 : f.k = 0 ∨ g.k = 0
 ·rw [if_pos h1]
  clear mf mg wa wb ha hb
  by_cases h2 : f.k = 0
  ·clear h1
   obtain ⟨f0, f1, f2, f3⟩ := f
   obtain ⟨g0, g1, g2, g3⟩ := g
   simp only at h2
   subst h2
   show Calls Tryz.prog 108 #[.agg #[.int .i64 a0, .bool a1, .int .u64 a2, .int .i64 a3], .agg #[.int .i64 b0, .bool b1, .int .u64 b2, .int .i64 b3], .bool up] w fun e w' => e = .returned (.agg #[.int .i64 0, .bool false, .int .u64 0, .int .i64 0]) ∧ Below w.heap.size w w'
   go_enter Tryz.func108, Tryz.ntmps108
   go_wp2_with (first
     | (go_at_call 80; (with_reducible refine (HFa.out _).mono ?_); rintro e1 w1 ⟨rfl, hb1⟩; replace BQ := BQ.call hb1; replace BR := BR.call hb1; replace HBd := bl_trans HBd hb1; have hlb := BR.lt; have hlb1 := BQ.lt; obtain ⟨⟨y0, y1, y2, y3⟩, _⟩ := BQ.c4; have BF : Blk (w1.alloc (.cells #[.int .i64 0, .bool f1, .int .u64 f2, .int .i64 f3] 37)) w1.heap.size 37 #[.int .i64 0, .bool f1, .int .u64 f2, .int .i64 f3] := Blk.new w1 _ _; replace BR := BR.alloc (.cells #[.int .i64 0, .bool f1, .int .u64 f2, .int .i64 f3] 37); replace HBd := bl_alloc HBd (.cells #[.int .i64 0, .bool f1, .int .u64 f2, .int .i64 f3] 37); clear hb1)
     | (go_at_call 80; (with_reducible refine (HFb.out _).mono ?_); rintro e2 w2 ⟨rfl, hb2⟩; replace BF := BF.call hb2; replace BR := BR.call hb2; replace HBd := bl_trans HBd hb2; clear hlb hlb1 BQ hb2; have hgf := BF.lt; have hlr := BR.lt; obtain ⟨⟨x0, x1, x2, x3⟩, _⟩ := BF.c4; obtain ⟨⟨z0, z1, z2, z3⟩, ⟨k0, k1, k2, k3⟩⟩ := BR.c4))
   have B2 := ((((BR.set_ 0 (.int .i64 0)).set_ 1 (.bool false)).set_ 2 (.int .u64 0)).set_ 3 (.int .i64 0)).alloc (.cells #[.int .i64 g0, .bool g1, .int .u64 g2, .int .i64 g3] 37)
   have HB2 := bl_alloc (((((HBd.setCell (p := ⟨w.heap.size + 1 + 1, 0, none⟩) (by show w.heap.size ≤ w.heap.size + 1 + 1; omega) (.int .i64 0)).setCell (p := ⟨w.heap.size + 1 + 1, 1, none⟩) (by show w.heap.size ≤ w.heap.size + 1 + 1; omega) (.bool false)).setCell (p := ⟨w.heap.size + 1 + 1, 2, none⟩) (by show w.heap.size ≤ w.heap.size + 1 + 1; omega) (.int .u64 0)).setCell (p := ⟨w.heap.size + 1 + 1, 3, none⟩) (by show w.heap.size ≤ w.heap.size + 1 + 1; omega) (.int .i64 0))) (.cells #[.int .i64 g0, .bool g1, .int .u64 g2, .int .i64 g3] 37)
   exact bodyPost_ret (results_cell_row rfl _ _ (w.heap.size + 1 + 1) 37 _ (0, 0) _ rfl B2 Tryz.underlying37 rfl (by kernel_rfl)) rfl ⟨rfl, HB2⟩
  ·have h3 : (f.k == 0) = false := by simpa using h2
   have h4 := h1.resolve_left h2
   clear h1 h2
   obtain ⟨f0, f1, f2, f3⟩ := f
   obtain ⟨g0, g1, g2, g3⟩ := g
   simp only at h3 h4
   subst h4
   show Calls Tryz.prog 108 #[.agg #[.int .i64 a0, .bool a1, .int .u64 a2, .int .i64 a3], .agg #[.int .i64 b0, .bool b1, .int .u64 b2, .int .i64 b3], .bool up] w fun e w' => e = .returned (.agg #[.int .i64 0, .bool false, .int .u64 0, .int .i64 0]) ∧ Below w.heap.size w w'
   go_enter Tryz.func108, Tryz.ntmps108
   go_wp2_with (first
     | (go_at_call 80; (with_reducible refine (HFa.out _).mono ?_); rintro e1 w1 ⟨rfl, hb1⟩; replace BQ := BQ.call hb1; replace BR := BR.call hb1; replace HBd := bl_trans HBd hb1; have hlb := BR.lt; have hlb1 := BQ.lt; obtain ⟨⟨y0, y1, y2, y3⟩, _⟩ := BQ.c4; have BF : Blk (w1.alloc (.cells #[.int .i64 f0, .bool f1, .int .u64 f2, .int .i64 f3] 37)) w1.heap.size 37 #[.int .i64 f0, .bool f1, .int .u64 f2, .int .i64 f3] := Blk.new w1 _ _; replace BR := BR.alloc (.cells #[.int .i64 f0, .bool f1, .int .u64 f2, .int .i64 f3] 37); replace HBd := bl_alloc HBd (.cells #[.int .i64 f0, .bool f1, .int .u64 f2, .int .i64 f3] 37); clear hb1)
     | (go_at_call 80; (with_reducible refine (HFb.out _).mono ?_); rintro e2 w2 ⟨rfl, hb2⟩; replace BF := BF.call hb2; replace BR := BR.call hb2; replace HBd := bl_trans HBd hb2; clear hlb hlb1 BQ hb2; have hgf := BF.lt; have hlr := BR.lt; obtain ⟨⟨x0, x1, x2, x3⟩, _⟩ := BF.c4; obtain ⟨⟨z0, z1, z2, z3⟩, ⟨k0, k1, k2, k3⟩⟩ := BR.c4))
   have B2 := ((((BR.set_ 0 (.int .i64 0)).set_ 1 (.bool false)).set_ 2 (.int .u64 0)).set_ 3 (.int .i64 0)).alloc (.cells #[.int .i64 0, .bool g1, .int .u64 g2, .int .i64 g3] 37)
   have HB2 := bl_alloc (((((HBd.setCell (p := ⟨w.heap.size + 1 + 1, 0, none⟩) (by show w.heap.size ≤ w.heap.size + 1 + 1; omega) (.int .i64 0)).setCell (p := ⟨w.heap.size + 1 + 1, 1, none⟩) (by show w.heap.size ≤ w.heap.size + 1 + 1; omega) (.bool false)).setCell (p := ⟨w.heap.size + 1 + 1, 2, none⟩) (by show w.heap.size ≤ w.heap.size + 1 + 1; omega) (.int .u64 0)).setCell (p := ⟨w.heap.size + 1 + 1, 3, none⟩) (by show w.heap.size ≤ w.heap.size + 1 + 1; omega) (.int .i64 0))) (.cells #[.int .i64 0, .bool g1, .int .u64 g2, .int .i64 g3] 37)
   exact bodyPost_ret (results_cell_row rfl _ _ (w.heap.size + 1 + 1) 37 _ (0, 0) _ rfl B2 Tryz.underlying37 rfl (by kernel_rfl)) rfl ⟨rfl, HB2⟩
 ·rw [if_neg h1]
  have q1 : f.k ≠ 0 := fun h => h1 (.inl h)
  have q2 : g.k ≠ 0 := fun h => h1 (.inr h)
  have q3 : (f.k == 0) = false := by simpa using q1
  have q4 : (g.k == 0) = false := by simpa using q2
  by_cases h2 : f.k = 2 ∨ g.k = 2
  ·rw [if_pos h2]
   clear mf mg wa wb ha hb h1 q1 q2
   have HI := Lib.hid (fun w => rinfN_lit (!(f.n == g.n)) w)
   by_cases h3 : f.k = 2
   ·clear h2 q3
    obtain ⟨f0, f1, f2, f3⟩ := f
    obtain ⟨g0, g1, g2, g3⟩ := g
    simp only at h3 q4 HI
    subst h3
    show Calls Tryz.prog 108 #[.agg #[.int .i64 a0, .bool a1, .int .u64 a2, .int .i64 a3], .agg #[.int .i64 b0, .bool b1, .int .u64 b2, .int .i64 b3], .bool up] w fun e w' => e = .returned (.agg #[.int .i64 2, .bool (!(f1 == g1)), .int .u64 0, .int .i64 0]) ∧ Below w.heap.size w w'
    go_enter Tryz.func108, Tryz.ntmps108
    go_wp2_with (first
      | (go_at_call 80; (with_reducible refine (HFa.out _).mono ?_); rintro e1 w1 ⟨rfl, hb1⟩; replace BQ := BQ.call hb1; replace BR := BR.call hb1; replace HBd := bl_trans HBd hb1; have hlb := BR.lt; have hlb1 := BQ.lt; obtain ⟨⟨y0, y1, y2, y3⟩, _⟩ := BQ.c4; have BF : Blk (w1.alloc (.cells #[.int .i64 2, .bool f1, .int .u64 f2, .int .i64 f3] 37)) w1.heap.size 37 #[.int .i64 2, .bool f1, .int .u64 f2, .int .i64 f3] := Blk.new w1 _ _; replace BR := BR.alloc (.cells #[.int .i64 2, .bool f1, .int .u64 f2, .int .i64 f3] 37); replace HBd := bl_alloc HBd (.cells #[.int .i64 2, .bool f1, .int .u64 f2, .int .i64 f3] 37); clear hb1)
      | (go_at_call 80; (with_reducible refine (HFb.out _).mono ?_); rintro e2 w2 ⟨rfl, hb2⟩; replace BF := BF.call hb2; replace BR := BR.call hb2; replace HBd := bl_trans HBd hb2; clear hlb hlb1 BQ hb2; have hgf := BF.lt; have hlr := BR.lt; obtain ⟨⟨x0, x1, x2, x3⟩, _⟩ := BF.c4; obtain ⟨⟨z0, z1, z2, z3⟩, ⟨k0, k1, k2, k3⟩⟩ := BR.c4)
      | (go_at_call 107; (with_reducible refine (HI.out _).mono ?_); rintro e3 w3 ⟨rfl, hb3⟩; replace BR := (BR.alloc (.cells #[.int .i64 g0, .bool g1, .int .u64 g2, .int .i64 g3] 37)).call hb3; replace HBd := bl_trans (bl_alloc HBd (.cells #[.int .i64 g0, .bool g1, .int .u64 g2, .int .i64 g3] 37)) hb3; clear z0 z1 z2 z3 k0 k1 k2 k3 hlr; have hlr := BR.lt; obtain ⟨⟨z0, z1, z2, z3⟩, ⟨k0, k1, k2, k3⟩⟩ := BR.c4))
    have B2 := ((((BR.set_ 0 (.int .i64 2)).set_ 1 (.bool (!(f1 == g1)))).set_ 2 (.int .u64 0)).set_ 3 (.int .i64 0))
    have HB2 := ((((HBd.setCell (p := ⟨w.heap.size + 1 + 1, 0, none⟩) (by show w.heap.size ≤ w.heap.size + 1 + 1; omega) (.int .i64 2)).setCell (p := ⟨w.heap.size + 1 + 1, 1, none⟩) (by show w.heap.size ≤ w.heap.size + 1 + 1; omega) (.bool (!(f1 == g1)))).setCell (p := ⟨w.heap.size + 1 + 1, 2, none⟩) (by show w.heap.size ≤ w.heap.size + 1 + 1; omega) (.int .u64 0)).setCell (p := ⟨w.heap.size + 1 + 1, 3, none⟩) (by show w.heap.size ≤ w.heap.size + 1 + 1; omega) (.int .i64 0))
    exact bodyPost_ret (results_cell_row rfl _ _ (w.heap.size + 1 + 1) 37 _ (0, 0) _ rfl B2 Tryz.underlying37 rfl (by kernel_rfl)) rfl ⟨rfl, HB2⟩
   ·have h4 : (f.k == 2) = false := by simpa using h3
    have h5 := h2.resolve_left h3
    clear h2 h3 q4
    obtain ⟨f0, f1, f2, f3⟩ := f
    obtain ⟨g0, g1, g2, g3⟩ := g
    simp only at h4 h5 q3 HI
    subst h5
    show Calls Tryz.prog 108 #[.agg #[.int .i64 a0, .bool a1, .int .u64 a2, .int .i64 a3], .agg #[.int .i64 b0, .bool b1, .int .u64 b2, .int .i64 b3], .bool up] w fun e w' => e = .returned (.agg #[.int .i64 2, .bool (!(f1 == g1)), .int .u64 0, .int .i64 0]) ∧ Below w.heap.size w w'
    go_enter Tryz.func108, Tryz.ntmps108
    go_wp2_with (first
      | (go_at_call 80; (with_reducible refine (HFa.out _).mono ?_); rintro e1 w1 ⟨rfl, hb1⟩; replace BQ := BQ.call hb1; replace BR := BR.call hb1; replace HBd := bl_trans HBd hb1; have hlb := BR.lt; have hlb1 := BQ.lt; obtain ⟨⟨y0, y1, y2, y3⟩, _⟩ := BQ.c4; have BF : Blk (w1.alloc (.cells #[.int .i64 f0, .bool f1, .int .u64 f2, .int .i64 f3] 37)) w1.heap.size 37 #[.int .i64 f0, .bool f1, .int .u64 f2, .int .i64 f3] := Blk.new w1 _ _; replace BR := BR.alloc (.cells #[.int .i64 f0, .bool f1, .int .u64 f2, .int .i64 f3] 37); replace HBd := bl_alloc HBd (.cells #[.int .i64 f0, .bool f1, .int .u64 f2, .int .i64 f3] 37); clear hb1)
      | (go_at_call 80; (with_reducible refine (HFb.out _).mono ?_); rintro e2 w2 ⟨rfl, hb2⟩; replace BF := BF.call hb2; replace BR := BR.call hb2; replace HBd := bl_trans HBd hb2; clear hlb hlb1 BQ hb2; have hgf := BF.lt; have hlr := BR.lt; obtain ⟨⟨x0, x1, x2, x3⟩, _⟩ := BF.c4; obtain ⟨⟨z0, z1, z2, z3⟩, ⟨k0, k1, k2, k3⟩⟩ := BR.c4)
      | (go_at_call 107; (with_reducible refine (HI.out _).mono ?_); rintro e3 w3 ⟨rfl, hb3⟩; replace BR := (BR.alloc (.cells #[.int .i64 2, .bool g1, .int .u64 g2, .int .i64 g3] 37)).call hb3; replace HBd := bl_trans (bl_alloc HBd (.cells #[.int .i64 2, .bool g1, .int .u64 g2, .int .i64 g3] 37)) hb3; clear z0 z1 z2 z3 k0 k1 k2 k3 hlr; have hlr := BR.lt; obtain ⟨⟨z0, z1, z2, z3⟩, ⟨k0, k1, k2, k3⟩⟩ := BR.c4))
    have B2 := ((((BR.set_ 0 (.int .i64 2)).set_ 1 (.bool (!(f1 == g1)))).set_ 2 (.int .u64 0)).set_ 3 (.int .i64 0))
    have HB2 := ((((HBd.setCell (p := ⟨w.heap.size + 1 + 1, 0, none⟩) (by show w.heap.size ≤ w.heap.size + 1 + 1; omega) (.int .i64 2)).setCell (p := ⟨w.heap.size + 1 + 1, 1, none⟩) (by show w.heap.size ≤ w.heap.size + 1 + 1; omega) (.bool (!(f1 == g1)))).setCell (p := ⟨w.heap.size + 1 + 1, 2, none⟩) (by show w.heap.size ≤ w.heap.size + 1 + 1; omega) (.int .u64 0)).setCell (p := ⟨w.heap.size + 1 + 1, 3, none⟩) (by show w.heap.size ≤ w.heap.size + 1 + 1; omega) (.int .i64 0))
    exact bodyPost_ret (results_cell_row rfl _ _ (w.heap.size + 1 + 1) 37 _ (0, 0) _ rfl B2 Tryz.underlying37 rfl (by kernel_rfl)) rfl ⟨rfl, HB2⟩
  ·rw [if_neg h2]
   have h3 : (f.k == 2) = false := by have : ¬ f.k = 2 := fun h => h2 (.inl h); simpa using this
   have h4 : (g.k == 2) = false := by have : ¬ g.k = 2 := fun h => h2 (.inr h); simpa using this
   have hf2 : f.k ≠ 2 := fun h => h2 (.inl h)
   have hg2 : g.k ≠ 2 := fun h => h2 (.inr h)
   clear h1 h2 q1 q2
   rename f.k ≠ 2 => h1
   rename g.k ≠ 2 => h2
   obtain ⟨i, i1, i2, i3, i4, i5⟩ := val_form mf h1 wa ha (by decide) (by decide)
   obtain ⟨j, j1, j2, j3, j4, j5⟩ := val_form mg h2 wb hb (by decide) (by decide)
   have HEa := (fun w => r5exact_calls f.k f.n f.m f.e w mf h1 wa (by omega))
   have HEb := (fun w => r5exact_calls g.k g.n g.m g.e w mg h2 wb (by omega))
   have hla : ∀ n', (digs (oddN f.m.toNat)).length = n' → n' ≤ 8 := fun n' h => len_one (a := 64) i3 (by decide) h
   have hlb2 : ∀ n', (digs (oddN g.m.toNat)).length = n' → n' ≤ 8 := fun n' h => len_one (a := 64) j3 (by decide) h
   have HTw := (fun A3 n3 c3 A4 n4 c4 W h h' hn hm hc hd => r3mul_calls (f.n && decide (0 < f.m.toNat)) (g.n && decide (0 < g.m.toNat)) A3 n3 c3 (digs (oddN f.m.toNat)) (dyE f.m.toNat f.e) A4 n4 c4 (digs (oddN g.m.toNat)) (dyE g.m.toNat g.e) W h h' hn hm hc hd (by omega) (by omega))
   rw [valL_digs, valL_digs] at HTw
   have hPl := prod_lt (c := 128) i3 j3 rfl
   have hPd := dyE_bd (e := dyE f.m.toNat f.e + dyE g.m.toNat g.e) (c := 20000) hPl (by omega) (by omega)
   have HRo := (fun A5 n5 c5 W h hn hc => r5round_calls (((f.n && decide (0 < f.m.toNat)) != (g.n && decide (0 < g.m.toNat))) && decide (0 < oddN f.m.toNat * oddN g.m.toNat)) A5 n5 c5 (digs (oddN (oddN f.m.toNat * oddN g.m.toNat))) (dyE (oddN f.m.toNat * oddN g.m.toNat) (dyE f.m.toNat f.e + dyE g.m.toNat g.e)) up W h hn hc (by omega) (by omega))
   rw [valL_digs, mul_round] at HRo
   have hfg : (f.m * g.m).toNat = f.m.toNat * g.m.toNat := by
    unfold Wf at wa wb
    obtain ⟨x, hx⟩ := Int.eq_ofNat_of_zero_le wa.1
    obtain ⟨y, hy⟩ := Int.eq_ofNat_of_zero_le wb.1
    rw [hx, hy, ← Int.natCast_mul]
    rfl
   rw [hfg]
   have hl5 : ∀ n', (digs (oddN (oddN f.m.toNat * oddN g.m.toNat))).length = n' → n' ≤ 1000 := fun n' h => len_one (odd_lt' hPl (Nat.le_refl _)) (by decide) h
   clear hPl hPd hfg
   unfold RetDy at HTw
   unfold RetEx at HEa HEb
   generalize roundAt _ _ _ up = r at HRo ⊢
   obtain ⟨r0, r1, r2, r3⟩ := r
   generalize (((f.n && decide (0 < f.m.toNat)) != (g.n && decide (0 < g.m.toNat))) && decide (0 < oddN f.m.toNat * oddN g.m.toNat)) = sv at HTw HRo
   generalize dyE (oddN f.m.toNat * oddN g.m.toNat) (dyE f.m.toNat f.e + dyE g.m.toNat g.e) = pv at HTw HRo
   generalize oddN (oddN f.m.toNat * oddN g.m.toNat) = OV at HTw HRo hl5
   generalize (f.n && decide (0 < f.m.toNat)) = sa at HEa HTw
   generalize dyE f.m.toNat f.e = pa at HEa HTw
   generalize oddN f.m.toNat = Of at HEa HTw hla
   generalize (g.n && decide (0 < g.m.toNat)) = sb at HEb HTw
   generalize dyE g.m.toNat g.e = pb at HEb HTw
   generalize oddN g.m.toNat = Og at HEb HTw hlb2
   clear i1 i2 i3 i4 i5 j1 j2 j3 j4 j5 mf mg wa wb ha hb h1 h2
   obtain ⟨f0, f1, f2, f3⟩ := f
   obtain ⟨g0, g1, g2, g3⟩ := g
   simp only at HEa HEb h3 h4 q3 q4
   replace HEa := Lib.hid HEa
   replace HEb := Lib.hid HEb
   replace HTw := Lib.hid HTw
   replace HRo := Lib.hid HRo
   replace hl5 := Lib.hid hl5
   replace hla := Lib.hid hla
   replace hlb2 := Lib.hid hlb2
   show Calls Tryz.prog 108 #[.agg #[.int .i64 a0, .bool a1, .int .u64 a2, .int .i64 a3], .agg #[.int .i64 b0, .bool b1, .int .u64 b2, .int .i64 b3], .bool up] w fun e w' => e = .returned (.agg #[.int .i64 r0, .bool r1, .int .u64 r2, .int .i64 r3]) ∧ Below w.heap.size w w'
   go_enter Tryz.func108, Tryz.ntmps108
   go_wp2_with (first
     | (go_at_call 80; (with_reducible refine (HFa.out _).mono ?_); rintro e1 w1 ⟨rfl, hb1⟩; replace BQ := BQ.call hb1; replace BR := BR.call hb1; replace HBd := bl_trans HBd hb1; have hlb := BR.lt; have hlb1 := BQ.lt; obtain ⟨⟨y0, y1, y2, y3⟩, _⟩ := BQ.c4; have BF : Blk (w1.alloc (.cells #[.int .i64 f0, .bool f1, .int .u64 f2, .int .i64 f3] 37)) w1.heap.size 37 #[.int .i64 f0, .bool f1, .int .u64 f2, .int .i64 f3] := Blk.new w1 _ _; replace BR := BR.alloc (.cells #[.int .i64 f0, .bool f1, .int .u64 f2, .int .i64 f3] 37); replace HBd := bl_alloc HBd (.cells #[.int .i64 f0, .bool f1, .int .u64 f2, .int .i64 f3] 37); clear hb1)
     | (go_at_call 80; (with_reducible refine (HFb.out _).mono ?_); rintro e2 w2 ⟨rfl, hb2⟩; replace BF := BF.call hb2; replace BR := BR.call hb2; replace HBd := bl_trans HBd hb2; clear hlb hlb1 BQ hb2; have hgf := BF.lt; have hlr := BR.lt; obtain ⟨⟨x0, x1, x2, x3⟩, _⟩ := BF.c4; obtain ⟨⟨z0, z1, z2, z3⟩, ⟨k0, k1, k2, k3⟩⟩ := BR.c4)
     | (go_at_call 109; (with_reducible refine (HEa.out _).mono ?_); rintro e3 w3 ⟨A3, n3, c3, rfl, hc3, S3, hb3⟩; have BG : Blk (w2.alloc (.cells #[.int .i64 g0, .bool g1, .int .u64 g2, .int .i64 g3] 37)) w2.heap.size 37 #[.int .i64 g0, .bool g1, .int .u64 g2, .int .i64 g3] := Blk.new w2 _ _; replace BG := BG.call hb3; replace BR := (BR.alloc (.cells #[.int .i64 g0, .bool g1, .int .u64 g2, .int .i64 g3] 37)).call hb3; replace HBd := bl_trans (bl_alloc HBd (.cells #[.int .i64 g0, .bool g1, .int .u64 g2, .int .i64 g3] 37)) hb3; have hn3 := hla.out n3 S3.1; replace S3 := Lib.hid (S3.on (bl_alloc (Below.refl _ _) (.cells #[.bool sa, .slice A3 n3 c3, .int .i64 pa] 128))); have BP : Blk (w3.alloc (.cells #[.bool sa, .slice A3 n3 c3, .int .i64 pa] 128)) w3.heap.size 128 #[.bool sa, .slice A3 n3 c3, .int .i64 pa] := Blk.new w3 _ _; clear x0 x1 x2 x3 z0 z1 z2 z3 k0 k1 k2 k3 hlr hgf BF; have hlg := BG.lt; obtain ⟨⟨x0, x1, x2, x3⟩, _⟩ := BG.c4; replace BR := BR.alloc (.cells #[.bool sa, .slice A3 n3 c3, .int .i64 pa] 128); replace HBd := bl_alloc HBd (.cells #[.bool sa, .slice A3 n3 c3, .int .i64 pa] 128); clear hb3)
     | (go_at_call 109; (with_reducible refine (HEb.out _).mono ?_); rintro e4 w4 ⟨A4, n4, c4, rfl, hc4, S4, hb4⟩; replace BP := BP.call hb4; replace BR := (BR.call hb4).alloc (.cells #[.bool sb, .slice A4 n4 c4, .int .i64 pb] 128); replace HBd := bl_alloc (bl_trans HBd hb4) (.cells #[.bool sb, .slice A4 n4 c4, .int .i64 pb] 128); have hn4 := hlb2.out n4 S4.1; replace S3 := Lib.hid ((S3.out.on hb4).on (bl_alloc (Below.refl _ _) (.cells #[.bool sb, .slice A4 n4 c4, .int .i64 pb] 128))); replace S4 := Lib.hid (S4.on (bl_alloc (Below.refl _ _) (.cells #[.bool sb, .slice A4 n4 c4, .int .i64 pb] 128))); have hlp := BP.lt; obtain ⟨p0, p1, p2⟩ : w4.cell? ⟨w3.heap.size, 0, none⟩ = some (.bool sa) ∧ w4.cell? ⟨w3.heap.size, 1, none⟩ = some (.slice A3 n3 c3) ∧ w4.cell? ⟨w3.heap.size, 2, none⟩ = some (.int .i64 pa) := ⟨BP.cell 0, BP.cell 1, BP.cell 2⟩; clear hb4 BG hlg x0 x1 x2 x3)
     | (go_at_call 124; (with_reducible refine (HTw.out A3 n3 c3 A4 n4 c4 _ S3.out S4.out hn3 hn4 hc3 hc4).mono ?_); rintro e5 w5 ⟨A5, n5, c5, rfl, hc5, S5, hb5⟩; replace BR := BR.call hb5; replace HBd := bl_trans HBd hb5; have hn5 := hl5.out n5 S5.1; replace S5 := Lib.hid S5; clear hb5 BP p0 p1 p2 hlp)
     | (go_at_call 110; (with_reducible refine (HRo.out A5 n5 c5 _ S5.out hn5 hc5).mono ?_); rintro e6 w6 ⟨rfl, hb6⟩; replace BR := BR.call hb6; replace HBd := bl_trans HBd hb6; have hlr := BR.lt; obtain ⟨⟨z0, z1, z2, z3⟩, ⟨k0, k1, k2, k3⟩⟩ := BR.c4; clear hb6))
   have B2 := ((((BR.set_ 0 (.int .i64 r0)).set_ 1 (.bool r1)).set_ 2 (.int .u64 r2)).set_ 3 (.int .i64 r3))
   have HB2 := ((((HBd.setCell (p := ⟨w.heap.size + 1 + 1, 0, none⟩) (by show w.heap.size ≤ w.heap.size + 1 + 1; omega) (.int .i64 r0)).setCell (p := ⟨w.heap.size + 1 + 1, 1, none⟩) (by show w.heap.size ≤ w.heap.size + 1 + 1; omega) (.bool r1)).setCell (p := ⟨w.heap.size + 1 + 1, 2, none⟩) (by show w.heap.size ≤ w.heap.size + 1 + 1; omega) (.int .u64 r2)).setCell (p := ⟨w.heap.size + 1 + 1, 3, none⟩) (by show w.heap.size ≤ w.heap.size + 1 + 1; omega) (.int .i64 r3))
   exact bodyPost_ret (results_cell_row rfl _ _ (w.heap.size + 1 + 1) 37 _ (0, 0) _ rfl B2 Tryz.underlying37 rfl (by kernel_rfl)) rfl ⟨rfl, HB2⟩
theorem few_half : FewE halfC 9000 := by unfold FewE; decide +kernel
theorem few_neg {x : Num} {B : Int} (wx : Wf x) (h : FewE x B) : FewE (negN x) B := by
 unfold FewE at h ⊢
 rw [fairN_of (negN_all x wx).1]
 exact h
set_option maxRecDepth 100000 in
set_option maxHeartbeats 4000000 in
theorem r6half_calls (a0 : Int) (a1 : Bool) (a2 a3 : Int) (up : Bool) (w : World) (wa : Wf ⟨a0, a1, a2, a3⟩) (ha : FewE ⟨a0, a1, a2, a3⟩ 9000) :
  Calls Tryz.prog 78 #[.agg #[.int .i64 a0, .bool a1, .int .u64 a2, .int .i64 a3], .bool up] w fun e w' => e = .returned (.agg #[.int .i64 (halfN ⟨a0, a1, a2, a3⟩ up).k, .bool (halfN ⟨a0, a1, a2, a3⟩ up).n, .int .u64 (halfN ⟨a0, a1, a2, a3⟩ up).m, .int .i64 (halfN ⟨a0, a1, a2, a3⟩ up).e]) ∧ Below w.heap.size w w' := by
 have HM := (fun w => r6mul_calls a0 a1 a2 a3 1 false 9223372036854775808 (-64) up w wa (by unfold Wf; decide) ha few_half)
 unfold halfN
 show Calls _ _ _ _ fun e w' => e = .returned (.agg #[.int .i64 (mulN ⟨a0, a1, a2, a3⟩ ⟨1, false, 9223372036854775808, -64⟩ up).k, .bool (mulN ⟨a0, a1, a2, a3⟩ ⟨1, false, 9223372036854775808, -64⟩ up).n, .int .u64 (mulN ⟨a0, a1, a2, a3⟩ ⟨1, false, 9223372036854775808, -64⟩ up).m, .int .i64 (mulN ⟨a0, a1, a2, a3⟩ ⟨1, false, 9223372036854775808, -64⟩ up).e]) ∧ Below w.heap.size w w'
 generalize mulN ⟨a0, a1, a2, a3⟩ ⟨1, false, 9223372036854775808, -64⟩ up = r at HM ⊢
 obtain ⟨r0, r1, r2, r3⟩ := r
 clear wa ha
 replace HM := Lib.hid HM
 have BR : Blk _ (w.heap.size + 1) 37 #[.int .i64 0, .bool false, .int .u64 0, .int .i64 0] := Blk.new1 w (.cells #[.int .i64 a0, .bool a1, .int .u64 a2, .int .i64 a3] 37) _ _
 have HBd := (bl_alloc (bl_alloc (Below.refl w.heap.size w) (.cells #[.int .i64 a0, .bool a1, .int .u64 a2, .int .i64 a3] 37)) (.cells #[.int .i64 0, .bool false, .int .u64 0, .int .i64 0] 37))
 go_enter Tryz.func78, Tryz.ntmps78
 go_wp2_with (go_at_call 108; (with_reducible refine (HM.out _).mono ?_); rintro e1 w1 ⟨rfl, hb⟩; replace BR := BR.call hb; replace HBd := bl_trans HBd hb; obtain ⟨⟨z0, z1, z2, z3⟩, ⟨k0, k1, k2, k3⟩⟩ := BR.c4; clear hb)
 have B2 := ((((BR.set_ 0 (.int .i64 r0)).set_ 1 (.bool r1)).set_ 2 (.int .u64 r2)).set_ 3 (.int .i64 r3))
 have HB2 := ((((HBd.setCell (p := ⟨w.heap.size + 1, 0, none⟩) (by show w.heap.size ≤ w.heap.size + 1; omega) (.int .i64 r0)).setCell (p := ⟨w.heap.size + 1, 1, none⟩) (by show w.heap.size ≤ w.heap.size + 1; omega) (.bool r1)).setCell (p := ⟨w.heap.size + 1, 2, none⟩) (by show w.heap.size ≤ w.heap.size + 1; omega) (.int .u64 r2)).setCell (p := ⟨w.heap.size + 1, 3, none⟩) (by show w.heap.size ≤ w.heap.size + 1; omega) (.int .i64 r3))
 exact bodyPost_ret (results_cell_row rfl _ _ (w.heap.size + 1) 37 _ (0, 0) _ rfl B2 Tryz.underlying37 rfl (by kernel_rfl)) rfl ⟨rfl, HB2⟩
set_option maxRecDepth 100000 in
set_option maxHeartbeats 4000000 in
theorem r6sub_calls (a0 : Int) (a1 : Bool) (a2 a3 : Int) (b0 : Int) (b1 : Bool) (b2 b3 : Int) (up : Bool) (w : World) (wa : Wf ⟨a0, a1, a2, a3⟩) (wb : Wf ⟨b0, b1, b2, b3⟩) (ha : FewE ⟨a0, a1, a2, a3⟩ 2900) (hb : FewE ⟨b0, b1, b2, b3⟩ 2900) :
  Calls Tryz.prog 56 #[.agg #[.int .i64 a0, .bool a1, .int .u64 a2, .int .i64 a3], .agg #[.int .i64 b0, .bool b1, .int .u64 b2, .int .i64 b3], .bool up] w fun e w' => e = .returned (.agg #[.int .i64 (subN ⟨a0, a1, a2, a3⟩ ⟨b0, b1, b2, b3⟩ up).k, .bool (subN ⟨a0, a1, a2, a3⟩ ⟨b0, b1, b2, b3⟩ up).n, .int .u64 (subN ⟨a0, a1, a2, a3⟩ ⟨b0, b1, b2, b3⟩ up).m, .int .i64 (subN ⟨a0, a1, a2, a3⟩ ⟨b0, b1, b2, b3⟩ up).e]) ∧ Below w.heap.size w w' := by
 have HN := (fun w => r5neg_calls b0 b1 b2 b3 w)
 have hm := negN_all ⟨b0, b1, b2, b3⟩ wb
 have hf := few_neg wb hb
 unfold subN
 generalize negN ⟨b0, b1, b2, b3⟩ = m at HN hm hf ⊢
 obtain ⟨m0, m1, m2, m3⟩ := m
 have HA := (fun w => r6add_calls a0 a1 a2 a3 m0 m1 m2 m3 up w wa hm.2.1 ha hf)
 generalize addN ⟨a0, a1, a2, a3⟩ ⟨m0, m1, m2, m3⟩ up = r at HA ⊢
 obtain ⟨r0, r1, r2, r3⟩ := r
 clear wa ha wb hb hm hf
 replace HN := Lib.hid HN
 replace HA := Lib.hid HA
 have BA : Blk _ w.heap.size 37 #[.int .i64 a0, .bool a1, .int .u64 a2, .int .i64 a3] := ((Blk.new w _ _).alloc (.cells #[.int .i64 b0, .bool b1, .int .u64 b2, .int .i64 b3] 37)).alloc (.cells #[.int .i64 0, .bool false, .int .u64 0, .int .i64 0] 37)
 have BQ : Blk _ (w.heap.size + 1) 37 #[.int .i64 b0, .bool b1, .int .u64 b2, .int .i64 b3] := Blk.alloc (Blk.new1 w (.cells #[.int .i64 a0, .bool a1, .int .u64 a2, .int .i64 a3] 37) _ _) (.cells #[.int .i64 0, .bool false, .int .u64 0, .int .i64 0] 37)
 have BR : Blk _ (w.heap.size + 1 + 1) 37 #[.int .i64 0, .bool false, .int .u64 0, .int .i64 0] := Blk.new2 w (.cells #[.int .i64 a0, .bool a1, .int .u64 a2, .int .i64 a3] 37) (.cells #[.int .i64 b0, .bool b1, .int .u64 b2, .int .i64 b3] 37) _ _
 have HBd := (bl_alloc (bl_alloc (bl_alloc (Below.refl w.heap.size w) (.cells #[.int .i64 a0, .bool a1, .int .u64 a2, .int .i64 a3] 37)) (.cells #[.int .i64 b0, .bool b1, .int .u64 b2, .int .i64 b3] 37)) (.cells #[.int .i64 0, .bool false, .int .u64 0, .int .i64 0] 37))
 go_enter Tryz.func56, Tryz.ntmps56
 go_wp2_with fail
 replace BA := BA.drew
 replace BQ := BQ.drew
 replace BR := BR.drew
 replace HBd := bl_drew HBd
 refine start_ (n := 6) (S := fun w' => w'.cell? ⟨w.heap.size, 0, none⟩ = some (.int .i64 a0) ∧ w'.cell? ⟨w.heap.size, 1, none⟩ = some (.bool a1) ∧ w'.cell? ⟨w.heap.size, 2, none⟩ = some (.int .u64 a2) ∧ w'.cell? ⟨w.heap.size, 3, none⟩ = some (.int .i64 a3) ∧ w'.cell? ⟨w.heap.size + 1, 0, none⟩ = some (.int .i64 b0) ∧ w'.cell? ⟨w.heap.size + 1, 1, none⟩ = some (.bool b1) ∧ w'.cell? ⟨w.heap.size + 1, 2, none⟩ = some (.int .u64 b2) ∧ w'.cell? ⟨w.heap.size + 1, 3, none⟩ = some (.int .i64 b3)) (ds := [5]) (bq 6 0) (by kernel_rfl) rfl rfl ⟨BA.cell 0, BA.cell 1, BA.cell 2, BA.cell 3, BQ.cell 0, BQ.cell 1, BQ.cell 2, BQ.cell 3⟩ (fun hHeld => ?_)
 refine take_ (i := 0) (N := some 7) (v := ?_) (a' := ?_) (bq 6 1) rfl rfl (by kernel_rfl) (fun _ _ _ h => h) (Or.inl ⟨by rfl, ?_⟩) hHeld ?_ ?_
 rotate_left
 ·rintro w' ⟨s0_, s1_, s2_, s3_, s4_, s5_, s6_, s7_⟩
  go_simp
  with_reducible rfl
 rotate_left
 ·simp only [Act.put, pA, pB, pC]
  rfl
 refine take_ (i := 1) (N := some 8) (v := ?_) (a' := ?_) (bq 6 3) rfl rfl (by kernel_rfl) (fun _ _ _ h => h) (Or.inl ⟨by rfl, ?_⟩) hHeld ?_ ?_
 rotate_left
 ·rintro w' ⟨s0_, s1_, s2_, s3_, s4_, s5_, s6_, s7_⟩
  go_simp
  with_reducible rfl
 rotate_left
 ·simp only [Act.put, pA, pB, pC]
  rfl
 refine pure_ (i := 3) (N := some 10) (v := ?_) (a' := ?_) (bq 6 11) rfl rfl (by kernel_rfl) (fun _ _ _ h => h) (Or.inl ⟨by rfl, ?_⟩) ?_ ?_
 rotate_left
 ·intro w'
  go_simp
  with_reducible rfl
 rotate_left
 ·simp only [Act.put, pA, pB, pC]
  rfl
 refine one_ (i := 2) (N := some 9) (bq 6 15) rfl rfl (by kernel_rfl) (by decide) (fun K hK => ?_)
 refine goes_ Tryz.func83 (by kernel_rfl) rfl #[.agg #[.int .i64 b0, .bool b1, .int .u64 b2, .int .i64 b3]] (by first | rfl | go_simp) rfl rfl (by simp only [List.map_toArray, List.map_cons, List.map_nil] <;> rfl) ?_
 with_reducible refine (HN.out _).mono ?_
 rintro e w2 ⟨rfl, hb⟩
 refine ⟨_, rfl, ?_⟩
 replace BA := BA.call hb
 replace BQ := BQ.call hb
 replace BR := BR.call hb
 replace HBd := bl_trans HBd hb
 refine hK.out _ _ ⟨BA.cell 0, BA.cell 1, BA.cell 2, BA.cell 3, BQ.cell 0, BQ.cell 1, BQ.cell 2, BQ.cell 3⟩ (fun hHeld => ?_)
 clear hK K hb
 refine norm_ (a' := ?_) ?_ ?_
 rotate_left
 ·show Act.put _ (some 9) _ = _
  simp only [Act.put, pA, pB, pC]
  rfl
 refine one_ (i := 4) (N := some 11) (bq 6 31) rfl rfl (by kernel_rfl) (by decide) (fun K hK => ?_)
 refine goes_ Tryz.func79 (by kernel_rfl) rfl #[.agg #[.int .i64 a0, .bool a1, .int .u64 a2, .int .i64 a3], .agg #[.int .i64 m0, .bool m1, .int .u64 m2, .int .i64 m3], .bool up] (by first | rfl | go_simp) rfl rfl (by simp only [List.map_toArray, List.map_cons, List.map_nil] <;> rfl) ?_
 with_reducible refine (HA.out _).mono ?_
 rintro e w3 ⟨rfl, hb⟩
 refine ⟨_, rfl, ?_⟩
 replace BA := BA.call hb
 replace BQ := BQ.call hb
 replace BR := BR.call hb
 replace HBd := bl_trans HBd hb
 obtain ⟨⟨z0, z1, z2, z3⟩, ⟨k0, k1, k2, k3⟩⟩ := BR.c4
 refine hK.out _ _ ⟨BA.cell 0, BA.cell 1, BA.cell 2, BA.cell 3, BQ.cell 0, BQ.cell 1, BQ.cell 2, BQ.cell 3⟩ (fun hHeld => ?_)
 clear hK K hb
 refine norm_ (a' := ?_) ?_ ?_
 rotate_left
 ·show Act.put _ (some 11) _ = _
  simp only [Act.put, pA, pB, pC]
  rfl
 refine last_ (i := 5) (N := none) (bq 6 63) rfl rfl (by kernel_rfl) (by decide) (fun K hK => ?_)
 refine skip_ (w1 := ?_) (by rfl) rfl ?_ ?_
 rotate_left
 ·go_simp
  rfl
 refine hK.out _ _ ?_
 clear hK K
 refine done_ (by kernel_rfl) ?_
 go_wp2_with fail
 have B2 := ((((BR.set_ 0 (.int .i64 r0)).set_ 1 (.bool r1)).set_ 2 (.int .u64 r2)).set_ 3 (.int .i64 r3))
 have HB2 := ((((HBd.setCell (p := ⟨w.heap.size + 1 + 1, 0, none⟩) (by show w.heap.size ≤ w.heap.size + 1 + 1; omega) (.int .i64 r0)).setCell (p := ⟨w.heap.size + 1 + 1, 1, none⟩) (by show w.heap.size ≤ w.heap.size + 1 + 1; omega) (.bool r1)).setCell (p := ⟨w.heap.size + 1 + 1, 2, none⟩) (by show w.heap.size ≤ w.heap.size + 1 + 1; omega) (.int .u64 r2)).setCell (p := ⟨w.heap.size + 1 + 1, 3, none⟩) (by show w.heap.size ≤ w.heap.size + 1 + 1; omega) (.int .i64 r3))
 exact bodyPost_ret (results_cell_row rfl _ _ (w.heap.size + 1 + 1) 37 _ (0, 0) _ rfl B2 Tryz.underlying37 rfl (by kernel_rfl)) rfl ⟨rfl, HB2⟩
end Go.Proofs.YtagojbgmgkkdpaaGreat.Wk
