/- Walk: (*pelorusref23.Reader).iv. -/
import Derived.Test.YtakajahogjeiaabRdF
namespace Go.Proofs.Ytakajahogjeiaab.Wk
open Go.RowKit Go.Proofs.Pl Go.Proofs.YtakajahogjeiaabW.PrintLast
set_option linter.unusedSimpArgs false
set_option linter.unusedVariables false

theorem size_alloc1 (w : World) (o : Obj) : (w.alloc o).heap.size = w.heap.size + 1 := by simp
set_option maxRecDepth 100000 in
set_option maxHeartbeats 4000000 in
theorem riv_calls (B p : Nat) (bs : List Int) (bad : Bool) (w : World) (hR : Rd w B p bs bad) :
    Calls Try.prog 78 #[.pointer (some ⟨p, 0, none⟩)] w fun e w' => e = .returned (.agg #[.bool ((rdI bs).1).emp, .int .i64 (((rdI bs).1).lo).k, .bool (((rdI bs).1).lo).n, .int .u64 (((rdI bs).1).lo).m, .int .i64 (((rdI bs).1).lo).e, .int .i64 (((rdI bs).1).hi).k, .bool (((rdI bs).1).hi).n, .int .u64 (((rdI bs).1).hi).m, .int .i64 (((rdI bs).1).hi).e]) ∧ Rd w' B p (rdI bs).2.1 (bad || (rdI bs).2.2) ∧ w.grownBy w' (some p) := by
  have hby : Byt (tk 1 bs) := (show Byt bs from hR.2.1).tk 1
  obtain ⟨m, hl, hv⟩ := tk_one bs
  have hm : 0 ≤ m ∧ m < 256 := hby m (by rw [hl]; simp)
  obtain ⟨hm0, hm1⟩ := hm
  by_cases h0 : m = 0
  · rw [rdI_zero (by omega)]
    subst h0
    dsimp only [noneI, zero]
    have hR0 : Rd (w.alloc (.cells #[.bool false, .int .i64 0, .bool false, .int .u64 0, .int .i64 0, .int .i64 0, .bool false, .int .u64 0, .int .i64 0] 26)) B p bs bad := hR.alloc _
    have hpl := hR.lt
    have B0 := Blk.new w 26 #[.bool false, .int .i64 0, .bool false, .int .u64 0, .int .i64 0, .int .i64 0, .bool false, .int .u64 0, .int .i64 0]
    have HG0 := grown_alloc (World.grownBy.refl w (some p)) (.cells #[.bool false, .int .i64 0, .bool false, .int .u64 0, .int .i64 0, .int .i64 0, .bool false, .int .u64 0, .int .i64 0] 26)
    have HT := Lib.hid (number1_calls B p bs bad _ hR0)
    rw [hv] at HT
    go_enter Try.func78, Try.ntmps78
    go_wp2_with (first
      | (go_at_call 76; ((with_reducible refine HT.out.mono ?_); rintro e w1 ⟨rfl, R1, G1⟩; have B1 := B0.grown G1 (by simp; omega); have HG1 := HG0.trans G1; clear HT))
      | (go_at_call 87; ((with_reducible refine (r8none_lit _).mono ?_); rintro e w2 ⟨rfl, hb⟩; have B2 := B1.call hb; have R2 := R1.below hb; have HG2 := HG1.trans (Below.grownBy hb (some p)); clear hb))
      | (refine wpList_storeG rfl 26 (.tmp 2) (.tmp 12) rfl w.heap.size _ #[.bool true, .int .i64 0, .bool false, .int .u64 0, .int .i64 0, .int .i64 0, .bool false, .int .u64 0, .int .i64 0] B2 rfl rfl (by kernel_rfl) rfl (by simp [Value.oneCell']) ?_; intro W3 B3 G3 hs3))
    exact bodyPost_ret (results_cell_row rfl _ _ w.heap.size 26 _ (0, 0) _ rfl B3 Try.underlying26 rfl (by kernel_rfl)) rfl ⟨rfl, R2.far' G3 hpl, grown_new HG2 G3 (Nat.le_refl _)⟩
  · by_cases h1 : m = 1
    · subst h1
      obtain ⟨⟨x1, x2, x3, x4⟩, r1, b1, e1⟩ := ex3' (rdN (dr 1 bs))
      obtain ⟨⟨y1, y2, y3, y4⟩, r2, b2, e2⟩ := ex3' (rdN r1)
      rw [rdI_one (by omega) e1 e2, hv]
      have HN1 := Lib.hid (fun bad W h => rnum_calls B p (dr 1 bs) bad W h)
      have HN2 := Lib.hid (fun bad W h => rnum_calls B p r1 bad W h)
      rw [e1] at HN1
      rw [e2] at HN2
      have HM := Lib.hid (fun W => r8may_calls false x1 x2 x3 x4 y1 y2 y3 y4 W)
      dsimp only at HN1 HN2 HM ⊢
      generalize mayI ⟨false, ⟨x1, x2, x3, x4⟩, ⟨y1, y2, y3, y4⟩⟩ = mm at HM ⊢
      cases mm
      all_goals
        have hR0 : Rd (w.alloc (.cells #[.bool false, .int .i64 0, .bool false, .int .u64 0, .int .i64 0, .int .i64 0, .bool false, .int .u64 0, .int .i64 0] 26)) B p bs bad := hR.alloc _
        have hpl := hR.lt
        have B0 := Blk.new w 26 #[.bool false, .int .i64 0, .bool false, .int .u64 0, .int .i64 0, .int .i64 0, .bool false, .int .u64 0, .int .i64 0]
        have HG0 := grown_alloc (World.grownBy.refl w (some p)) (.cells #[.bool false, .int .i64 0, .bool false, .int .u64 0, .int .i64 0, .int .i64 0, .bool false, .int .u64 0, .int .i64 0] 26)
        have HT := Lib.hid (number1_calls B p bs bad _ hR0)
        rw [hv] at HT
        clear h0
        go_enter Try.func78, Try.ntmps78
        go_wp2_with (first
          | (go_at_call 76; ((with_reducible refine HT.out.mono ?_); rintro e w1 ⟨rfl, R1, G1⟩; have B1 := B0.grown G1 (by simp; omega); have HG1 := HG0.trans G1; have hs1 := G1.size; rw [size_alloc1] at hs1; obtain ⟨q9, f9⟩ := R1.cbad; clear HT))
          | (go_at_call 77; first
            | ((with_reducible refine (HN1.out _ _ R1).mono ?_); rintro e w3 ⟨rfl, R3, G3⟩; have B3 := (B1).grown G3 (by simp; omega); have HG3 := (HG1).trans G3; have hs3 : w.heap.size + 1 ≤ w3.heap.size := Nat.le_trans hs1 (by have := G3.size; simpa using this); clear q9 f9)
            | ((with_reducible refine (HN2.out _ _ R4).mono ?_); rintro e w5 ⟨rfl, R5, G5⟩; have B5 := B4.grown G5 (by simp; omega); have X5 := X4.grown G5 (by simp; omega); have HG5 := HG4.trans G5; have hs5 : w3.heap.size + 1 ≤ w5.heap.size := by have h5 := G5.size; rw [hs4] at h5; simpa using h5))
          | (refine wpList_storeG rfl 24 (.tmp 4) (.tmp 19) rfl w3.heap.size _ #[.int .i64 x1, .bool x2, .int .u64 x3, .int .i64 x4] (Blk.new w3 _ _) rfl rfl (by kernel_rfl) rfl (by simp [Value.oneCell']) ?_; intro W4 X4 G4 hs4; have R4 := (R3.alloc _).far' G4 (by omega); have B4 := (B3.alloc _).grown G4 (by simp; omega); have HG4 := grown_new (grown_alloc HG3 _) G4 (by omega))
          | (refine wpList_storeG rfl 24 (.tmp 5) (.tmp 21) rfl w5.heap.size _ #[.int .i64 y1, .bool y2, .int .u64 y3, .int .i64 y4] (Blk.new w5 _ _) rfl rfl (by kernel_rfl) rfl (by simp [Value.oneCell']) ?_; intro W6 Y6 G6 hs6; have R6 := (R5.alloc _).far' G6 (by omega); have B6 := (B5.alloc _).grown G6 (by simp; omega); have X6 := (X5.alloc _).grown G6 (by simp; omega); have HG6 := grown_new (grown_alloc HG5 _) G6 (by omega); have hs6' : W6.heap.size = w5.heap.size + 1 := by rw [hs6]; simp)
          | (refine wpList_load_row rfl 24 (.tmp 4) rfl w3.heap.size rfl 24 _ (0, 0) _ X6 Try.underlying24 rfl (by kernel_rfl) ?_)
          | (refine wpList_load_row rfl 24 (.tmp 5) rfl w5.heap.size rfl 24 _ (0, 0) _ Y6 Try.underlying24 rfl (by kernel_rfl) ?_)
          | (refine wpList_storeG rfl 26 (.tmp 6) (.tmp 24) rfl (w5.heap.size + 1) #[.bool false, .int .i64 0, .bool false, .int .u64 0, .int .i64 0, .int .i64 0, .bool false, .int .u64 0, .int .i64 0] #[.bool false, .int .i64 x1, .bool x2, .int .u64 x3, .int .i64 x4, .int .i64 y1, .bool y2, .int .u64 y3, .int .i64 y4] (by rw [← hs6']; exact Blk.new W6 _ _) rfl rfl (by kernel_rfl) rfl (by simp [Value.oneCell']) ?_; intro W7 Z7 G7 hs7; have R7 := (R6.alloc _).far' G7 (by omega); have B7 := (B6.alloc _).grown G7 (by simp; omega); have HG7 := grown_new (grown_alloc HG6 _) G7 (by omega))
          | (refine wpList_load_row rfl 26 (.tmp 6) rfl (w5.heap.size + 1) rfl 26 _ (0, 0) _ Z7 Try.underlying26 rfl (by kernel_rfl) ?_)
          | (go_at_call 112; ((with_reducible refine (HM.out _).mono ?_); rintro e w8 ⟨rfl, hb⟩; have B8 := B7.call hb; have Z8 := Z7.call hb; have R8 := R7.below hb; have HG8 := HG7.trans (Below.grownBy hb (some p)); clear hb; obtain ⟨q9, f9⟩ := R8.cbad))
          | (refine wpList_load_row rfl 26 (.tmp 6) rfl (w5.heap.size + 1) rfl 26 _ (0, 0) _ Z8 Try.underlying26 rfl (by kernel_rfl) ?_)
          | (refine wpList_load_row rfl 26 (.tmp 6) rfl (w5.heap.size + 1) rfl 26 _ (0, 0) _ (Z8.far (p := ⟨p, 1, none⟩) (by simp; omega) _) Try.underlying26 rfl (by kernel_rfl) ?_)
          | (refine wpList_storeG rfl 26 (.tmp 2) (.tmp 32) rfl w.heap.size _ #[.bool false, .int .i64 x1, .bool x2, .int .u64 x3, .int .i64 x4, .int .i64 y1, .bool y2, .int .u64 y3, .int .i64 y4] B8 rfl rfl (by kernel_rfl) rfl (by simp [Value.oneCell']) ?_; intro WA BA GA hsA; have RA := R8.far' GA hpl; have HGA := grown_new HG8 GA (Nat.le_refl _))
          | (refine wpList_storeG rfl 26 (.tmp 2) (.tmp 32) rfl w.heap.size _ #[.bool false, .int .i64 x1, .bool x2, .int .u64 x3, .int .i64 x4, .int .i64 y1, .bool y2, .int .u64 y3, .int .i64 y4] (B8.far (p := ⟨p, 1, none⟩) (by simp; omega) _) rfl rfl (by kernel_rfl) rfl (by simp [Value.oneCell']) ?_; intro WA BA GA hsA; have RA := (R8.bad true).far' GA hpl; have HGA := grown_new (HG8.trans (grown_set _ p 1 _)) GA (Nat.le_refl _)))
        refine bodyPost_ret (results_cell_row rfl _ _ w.heap.size 26 _ (0, 0) _ rfl BA Try.underlying26 rfl (by kernel_rfl)) rfl ⟨rfl, ?_, HGA⟩
        simpa [Bool.or_assoc] using RA
    · have m0 : (m == 0) = false := beq_eq_false_iff_ne.2 h0
      have m1 : (m == 1) = false := beq_eq_false_iff_ne.2 h1
      have hgt : 1 < m := by omega
      obtain ⟨⟨x1, x2, x3, x4⟩, r1, b1, e1⟩ := ex3' (rdN (dr 1 bs))
      obtain ⟨⟨y1, y2, y3, y4⟩, r2, b2, e2⟩ := ex3' (rdN r1)
      rw [rdI_one (by omega) e1 e2, hv]
      have HN1 := Lib.hid (fun bad W h => rnum_calls B p (dr 1 bs) bad W h)
      have HN2 := Lib.hid (fun bad W h => rnum_calls B p r1 bad W h)
      rw [e1] at HN1
      rw [e2] at HN2
      have HM := Lib.hid (fun W => r8may_calls false x1 x2 x3 x4 y1 y2 y3 y4 W)
      dsimp only at HN1 HN2 HM ⊢
      generalize mayI ⟨false, ⟨x1, x2, x3, x4⟩, ⟨y1, y2, y3, y4⟩⟩ = mm at HM ⊢
      cases mm
      all_goals
        have hR0 : Rd (w.alloc (.cells #[.bool false, .int .i64 0, .bool false, .int .u64 0, .int .i64 0, .int .i64 0, .bool false, .int .u64 0, .int .i64 0] 26)) B p bs bad := hR.alloc _
        have hpl := hR.lt
        have B0 := Blk.new w 26 #[.bool false, .int .i64 0, .bool false, .int .u64 0, .int .i64 0, .int .i64 0, .bool false, .int .u64 0, .int .i64 0]
        have HG0 := grown_alloc (World.grownBy.refl w (some p)) (.cells #[.bool false, .int .i64 0, .bool false, .int .u64 0, .int .i64 0, .int .i64 0, .bool false, .int .u64 0, .int .i64 0] 26)
        have HT := Lib.hid (number1_calls B p bs bad _ hR0)
        rw [hv] at HT
        clear h0
        go_enter Try.func78, Try.ntmps78
        go_wp2_with (first
          | (go_at_call 76; ((with_reducible refine HT.out.mono ?_); rintro e w1 ⟨rfl, R1, G1⟩; have B1 := B0.grown G1 (by simp; omega); have HG1 := HG0.trans G1; have hs1 := G1.size; rw [size_alloc1] at hs1; obtain ⟨q9, f9⟩ := R1.cbad; clear HT))
          | (go_at_call 77; first
            | ((with_reducible refine (HN1.out _ _ (R1.bad true)).mono ?_); rintro e w3 ⟨rfl, R3, G3⟩; have B3 := (B1.far (p := ⟨p, 1, none⟩) (by simp; omega) _).grown G3 (by simp; omega); have HG3 := (HG1.trans (grown_set _ p 1 _)).trans G3; have hs3 : w.heap.size + 1 ≤ w3.heap.size := Nat.le_trans hs1 (by have := G3.size; simpa using this); clear q9 f9)
            | ((with_reducible refine (HN2.out _ _ R4).mono ?_); rintro e w5 ⟨rfl, R5, G5⟩; have B5 := B4.grown G5 (by simp; omega); have X5 := X4.grown G5 (by simp; omega); have HG5 := HG4.trans G5; have hs5 : w3.heap.size + 1 ≤ w5.heap.size := by have h5 := G5.size; rw [hs4] at h5; simpa using h5))
          | (refine wpList_storeG rfl 24 (.tmp 4) (.tmp 19) rfl w3.heap.size _ #[.int .i64 x1, .bool x2, .int .u64 x3, .int .i64 x4] (Blk.new w3 _ _) rfl rfl (by kernel_rfl) rfl (by simp [Value.oneCell']) ?_; intro W4 X4 G4 hs4; have R4 := (R3.alloc _).far' G4 (by omega); have B4 := (B3.alloc _).grown G4 (by simp; omega); have HG4 := grown_new (grown_alloc HG3 _) G4 (by omega))
          | (refine wpList_storeG rfl 24 (.tmp 5) (.tmp 21) rfl w5.heap.size _ #[.int .i64 y1, .bool y2, .int .u64 y3, .int .i64 y4] (Blk.new w5 _ _) rfl rfl (by kernel_rfl) rfl (by simp [Value.oneCell']) ?_; intro W6 Y6 G6 hs6; have R6 := (R5.alloc _).far' G6 (by omega); have B6 := (B5.alloc _).grown G6 (by simp; omega); have X6 := (X5.alloc _).grown G6 (by simp; omega); have HG6 := grown_new (grown_alloc HG5 _) G6 (by omega); have hs6' : W6.heap.size = w5.heap.size + 1 := by rw [hs6]; simp)
          | (refine wpList_load_row rfl 24 (.tmp 4) rfl w3.heap.size rfl 24 _ (0, 0) _ X6 Try.underlying24 rfl (by kernel_rfl) ?_)
          | (refine wpList_load_row rfl 24 (.tmp 5) rfl w5.heap.size rfl 24 _ (0, 0) _ Y6 Try.underlying24 rfl (by kernel_rfl) ?_)
          | (refine wpList_storeG rfl 26 (.tmp 6) (.tmp 24) rfl (w5.heap.size + 1) #[.bool false, .int .i64 0, .bool false, .int .u64 0, .int .i64 0, .int .i64 0, .bool false, .int .u64 0, .int .i64 0] #[.bool false, .int .i64 x1, .bool x2, .int .u64 x3, .int .i64 x4, .int .i64 y1, .bool y2, .int .u64 y3, .int .i64 y4] (by rw [← hs6']; exact Blk.new W6 _ _) rfl rfl (by kernel_rfl) rfl (by simp [Value.oneCell']) ?_; intro W7 Z7 G7 hs7; have R7 := (R6.alloc _).far' G7 (by omega); have B7 := (B6.alloc _).grown G7 (by simp; omega); have HG7 := grown_new (grown_alloc HG6 _) G7 (by omega))
          | (refine wpList_load_row rfl 26 (.tmp 6) rfl (w5.heap.size + 1) rfl 26 _ (0, 0) _ Z7 Try.underlying26 rfl (by kernel_rfl) ?_)
          | (go_at_call 112; ((with_reducible refine (HM.out _).mono ?_); rintro e w8 ⟨rfl, hb⟩; have B8 := B7.call hb; have Z8 := Z7.call hb; have R8 := R7.below hb; have HG8 := HG7.trans (Below.grownBy hb (some p)); clear hb; obtain ⟨q9, f9⟩ := R8.cbad))
          | (refine wpList_load_row rfl 26 (.tmp 6) rfl (w5.heap.size + 1) rfl 26 _ (0, 0) _ Z8 Try.underlying26 rfl (by kernel_rfl) ?_)
          | (refine wpList_load_row rfl 26 (.tmp 6) rfl (w5.heap.size + 1) rfl 26 _ (0, 0) _ (Z8.far (p := ⟨p, 1, none⟩) (by simp; omega) _) Try.underlying26 rfl (by kernel_rfl) ?_)
          | (refine wpList_storeG rfl 26 (.tmp 2) (.tmp 32) rfl w.heap.size _ #[.bool false, .int .i64 x1, .bool x2, .int .u64 x3, .int .i64 x4, .int .i64 y1, .bool y2, .int .u64 y3, .int .i64 y4] B8 rfl rfl (by kernel_rfl) rfl (by simp [Value.oneCell']) ?_; intro WA BA GA hsA; have RA := R8.far' GA hpl; have HGA := grown_new HG8 GA (Nat.le_refl _))
          | (refine wpList_storeG rfl 26 (.tmp 2) (.tmp 32) rfl w.heap.size _ #[.bool false, .int .i64 x1, .bool x2, .int .u64 x3, .int .i64 x4, .int .i64 y1, .bool y2, .int .u64 y3, .int .i64 y4] (B8.far (p := ⟨p, 1, none⟩) (by simp; omega) _) rfl rfl (by kernel_rfl) rfl (by simp [Value.oneCell']) ?_; intro WA BA GA hsA; have RA := (R8.bad true).far' GA hpl; have HGA := grown_new (HG8.trans (grown_set _ p 1 _)) GA (Nat.le_refl _)))
        refine bodyPost_ret (results_cell_row rfl _ _ w.heap.size 26 _ (0, 0) _ rfl BA Try.underlying26 rfl (by kernel_rfl)) rfl ⟨rfl, ?_, HGA⟩
        simpa [Bool.or_assoc, h1] using RA
end Go.Proofs.Ytakajahogjeiaab.Wk
