/- Walk: (*pelorusref23.Reader).num. -/
import Derived.Test.YtakajahogjeiaabRdD
import Derived.Test.YtakajahogjeiaabRefN
namespace Go.Proofs.Ytakajahogjeiaab.Wk
open Go.RowKit Go.Proofs.Pl Go.Proofs.YtakajahogjeiaabW.PrintLast
set_option linter.unusedSimpArgs false
set_option linter.unusedVariables false

theorem Rd.cbad {w : World} {B p : Nat} {bs : List Int} {bad : Bool} (h : Rd w B p bs bad) : w.cell? ⟨p, 1, none⟩ = some (.bool bad) ∧ w.frozen? ⟨p, 1, none⟩ = false := by
  obtain ⟨h1, h2, t, A, c, hb, hS, h3, h4⟩ := h
  exact ⟨hb.cell 1, hb.frozen 1⟩
set_option maxRecDepth 100000 in
set_option maxHeartbeats 4000000 in
theorem rnum_calls (B p : Nat) (bs : List Int) (bad : Bool) (w : World) (hR : Rd w B p bs bad) :
    Calls Try.prog 77 #[.pointer (some ⟨p, 0, none⟩)] w fun e w' => e = .returned (.agg #[.int .i64 ((rdN bs).1).k, .bool ((rdN bs).1).n, .int .u64 ((rdN bs).1).m, .int .i64 ((rdN bs).1).e]) ∧ Rd w' B p (rdN bs).2.1 (bad || (rdN bs).2.2) ∧ w.grownBy w' (some p) := by
  have hby : Byt (tk 1 bs) := (show Byt bs from hR.2.1).tk 1
  obtain ⟨m, hl, hv⟩ := tk_one bs
  have hm : 0 ≤ m ∧ m < 256 := hby m (by rw [hl]; simp)
  obtain ⟨hm0, hm1⟩ := hm
  unfold rdN
  rw [hv]
  by_cases h0 : m = 0
  · rw [if_pos h0]
    subst h0
    dsimp only
    have hR0 : Rd (w.alloc (.cells #[.int .i64 0, .bool false, .int .u64 0, .int .i64 0] 24)) B p bs bad := hR.alloc _
    have hpl := hR.lt
    have B0 := Blk.new w 24 #[.int .i64 0, .bool false, .int .u64 0, .int .i64 0]
    have HT := Lib.hid (number1_calls B p bs bad _ hR0)
    rw [hv] at HT
    have hg0 : w.heap.size < (w.alloc (.cells #[.int .i64 0, .bool false, .int .u64 0, .int .i64 0] 24)).heap.size := by simp
    go_enter Try.func77, Try.ntmps77
    go_wp2_with (first
      | (go_at_call 76; ((with_reducible refine HT.out.mono ?_); rintro e w1 ⟨rfl, R1, G1⟩; have B1 := B0.grown G1 (by simp; omega); have HG1 := (grown_alloc (World.grownBy.refl w (some p)) (.cells #[.int .i64 0, .bool false, .int .u64 0, .int .i64 0] 24)).trans G1; have hs1 := G1.size; clear HT))
      | (refine wpList_storeG rfl 24 (.tmp 4) (.tmp 10) rfl w1.heap.size _ #[.int .i64 0, .bool false, .int .u64 0, .int .i64 0] (Blk.new w1 _ _) rfl rfl (by kernel_rfl) rfl (by simp [Value.oneCell']) ?_; intro W2 B2 G2 hs2; have R2 := (R1.alloc _).far' G2 (by omega); have BR2 := (B1.alloc _).grown G2 (by simp; omega); have HG2 := grown_new (grown_alloc HG1 _) G2 (by omega); obtain ⟨⟨q0, q1, q2, q3⟩, ⟨f0, f1, f2, f3⟩⟩ := B2.c4; obtain ⟨q9, f9⟩ := R2.cbad)
      | (refine wpList_storeG rfl 24 (.tmp 2) (.tmp 17) rfl w.heap.size _ #[.int .i64 0, .bool false, .int .u64 0, .int .i64 0] BR2 rfl rfl (by kernel_rfl) rfl (by simp [Value.oneCell']) ?_; intro W3 B3 G3 hs3))
    exact bodyPost_ret (results_cell_row rfl _ _ w.heap.size 24 _ (0, 0) _ rfl B3 Try.underlying24 rfl (by kernel_rfl)) rfl ⟨rfl, R2.far' G3 hpl, grown_new HG2 G3 (Nat.le_refl _)⟩
  · rw [if_neg h0]
    by_cases h2 : m ≤ 2
    · rw [if_pos h2]
      dsimp only
      obtain rfl | rfl : m = 1 ∨ m = 2 := by omega
      all_goals
        have hR0 : Rd (w.alloc (.cells #[.int .i64 0, .bool false, .int .u64 0, .int .i64 0] 24)) B p bs bad := hR.alloc _
        have hpl := hR.lt
        have B0 := Blk.new w 24 #[.int .i64 0, .bool false, .int .u64 0, .int .i64 0]
        have HT := Lib.hid (number1_calls B p bs bad _ hR0)
        rw [hv] at HT
        have hg0 : w.heap.size < (w.alloc (.cells #[.int .i64 0, .bool false, .int .u64 0, .int .i64 0] 24)).heap.size := by simp
        clear h0 h2
        go_enter Try.func77, Try.ntmps77
        go_wp2_with (first
          | (go_at_call 76; ((with_reducible refine HT.out.mono ?_); rintro e w1 ⟨rfl, R1, G1⟩; have B1 := B0.grown G1 (by simp; omega); have HG1 := (grown_alloc (World.grownBy.refl w (some p)) (.cells #[.int .i64 0, .bool false, .int .u64 0, .int .i64 0] 24)).trans G1; have hs1 := G1.size; clear HT))
          | (refine wpList_storeG rfl 24 (.tmp 4) (.tmp 10) rfl w1.heap.size _ #[.int .i64 0, .bool false, .int .u64 0, .int .i64 0] (Blk.new w1 _ _) rfl rfl (by kernel_rfl) rfl (by simp [Value.oneCell']) ?_; intro W2 B2 G2 hs2; have R2 := (R1.alloc _).far' G2 (by omega); have BR2 := (B1.alloc _).grown G2 (by simp; omega); have HG2 := grown_new (grown_alloc HG1 _) G2 (by omega); obtain ⟨⟨q0, q1, q2, q3⟩, ⟨f0, f1, f2, f3⟩⟩ := B2.c4; obtain ⟨q9, f9⟩ := R2.cbad)
          | (refine wpList_storeG rfl 24 (.tmp 2) (.tmp 23) rfl w.heap.size _ #[.int .i64 2, .bool false, .int .u64 0, .int .i64 0] BR2 rfl rfl (by kernel_rfl) rfl (by simp [Value.oneCell']) ?_; intro W3 B3 G3 hs3)
          | (refine wpList_storeG rfl 24 (.tmp 2) (.tmp 23) rfl w.heap.size _ #[.int .i64 2, .bool true, .int .u64 0, .int .i64 0] BR2 rfl rfl (by kernel_rfl) rfl (by simp [Value.oneCell']) ?_; intro W3 B3 G3 hs3))
        exact bodyPost_ret (results_cell_row rfl _ _ w.heap.size 24 _ (0, 0) _ rfl B3 Try.underlying24 rfl (by kernel_rfl)) rfl ⟨rfl, R2.far' G3 hpl, grown_new HG2 G3 (Nat.le_refl _)⟩
    · rw [if_neg h2]
      by_cases h4 : m ≤ 4
      · rw [if_pos h4]
        have hby8 : Byt (tk 8 (dr 1 bs)) := ((show Byt bs from hR.2.1).dr 1).tk 8
        have hby4 : Byt (tk 4 (dr 8 (dr 1 bs))) := (((show Byt bs from hR.2.1).dr 1).dr 8).tk 4
        have hv4 := valB_range _ hby4
        rw [tk_length, show (256 : Int) ^ 4 = 4294967296 from by decide] at hv4
        unfold finR
        rw [hv]
        have HW8 := Lib.hid (fun bad W h => number8_calls B p (dr 1 bs) bad W h)
        have HW4 := Lib.hid (fun bad W h => number4_calls B p (dr 8 (dr 1 bs)) bad W h)
        generalize valB (tk 8 (dr 1 bs)) = v8 at HW8 ⊢
        generalize valB (tk 4 (dr 8 (dr 1 bs))) = v4 at HW4 hv4 ⊢
        obtain ⟨hv40, hv41⟩ := hv4
        dsimp only
        clear hby8 hby4
        obtain rfl | rfl : m = 3 ∨ m = 4 := by omega
        · rw [show decide ((3 : Int) = 4) = false from rfl]
          have HM := Lib.hid (fun W => rmayN_calls 1 false v8 (v4 - 1048576) W)
          generalize mayN ⟨1, false, v8, v4 - 1048576⟩ = mm at HM ⊢
          cases mm
          all_goals
            have hR0 : Rd (w.alloc (.cells #[.int .i64 0, .bool false, .int .u64 0, .int .i64 0] 24)) B p bs bad := hR.alloc _
            have hpl := hR.lt
            have B0 := Blk.new w 24 #[.int .i64 0, .bool false, .int .u64 0, .int .i64 0]
            have HT := Lib.hid (number1_calls B p bs bad _ hR0)
            rw [hv] at HT
            have hg0 : w.heap.size < (w.alloc (.cells #[.int .i64 0, .bool false, .int .u64 0, .int .i64 0] 24)).heap.size := by simp
            clear h0 h2 h4
            go_enter Try.func77, Try.ntmps77
            go_wp2_with (first
              | (go_at_call 76; first
                | ((with_reducible refine HT.out.mono ?_); rintro e w1 ⟨rfl, R1, G1⟩; have B1 := B0.grown G1 (by simp; omega); have HG1 := (grown_alloc (World.grownBy.refl w (some p)) (.cells #[.int .i64 0, .bool false, .int .u64 0, .int .i64 0] 24)).trans G1; have hs1 := G1.size; clear HT)
                | ((with_reducible refine (HW8.out _ _ R2).mono ?_); rintro e w3 ⟨rfl, R3, G3⟩; have B3 := B2.grown G3 (by simp; omega); have BR3 := BR2.grown G3 (by simp; omega); have HG3 := HG2.trans G3; have hs3 := G3.size; clear q0 q1 q2 q3 f0 f1 f2 f3 q9 f9)
                | ((with_reducible refine (HW4.out _ _ R3).mono ?_); rintro e w4 ⟨rfl, R4, G4⟩; have B4 := B3.grown G4 (by simp; omega); have BR4 := BR3.grown G4 (by simp; omega); have HG4 := HG3.trans G4; have hs4 := G4.size))
              | (refine wpList_storeG rfl 24 (.tmp 4) (.tmp 10) rfl w1.heap.size _ #[.int .i64 0, .bool false, .int .u64 0, .int .i64 0] (Blk.new w1 _ _) rfl rfl (by kernel_rfl) rfl (by simp [Value.oneCell']) ?_; intro W2 B2 G2 hs2; have R2 := (R1.alloc _).far' G2 (by omega); have BR2 := (B1.alloc _).grown G2 (by simp; omega); have HG2 := grown_new (grown_alloc HG1 _) G2 (by omega); obtain ⟨⟨q0, q1, q2, q3⟩, ⟨f0, f1, f2, f3⟩⟩ := B2.c4; obtain ⟨q9, f9⟩ := R2.cbad)
              | (refine wpList_storeG rfl 24 (.tmp 4) (.tmp 37) rfl w1.heap.size _ #[.int .i64 1, .bool false, .int .u64 v8, .int .i64 (v4 - 1048576)] B4 rfl rfl (by kernel_rfl) rfl (by simp [Value.oneCell']) ?_; intro W5 B5 G5 hs5; have R5 := R4.far' G5 (by omega); have BR5 := BR4.grown G5 (by simp; omega); have HG5 := grown_new HG4 G5 (by omega); obtain ⟨⟨q0, q1, q2, q3⟩, ⟨f0, f1, f2, f3⟩⟩ := B5.c4)
              | (go_at_call 111; ((with_reducible refine (HM.out _).mono ?_); rintro e w6 ⟨rfl, hb⟩; have B6 := B5.call hb; have BR6 := BR5.call hb; have R6 := R5.below hb; have HG6 := HG5.trans (Below.grownBy hb (some p)); clear q0 q1 q2 q3 f0 f1 f2 f3 hb; obtain ⟨q9, f9⟩ := R6.cbad; obtain ⟨⟨q0, q1, q2, q3⟩, ⟨f0, f1, f2, f3⟩⟩ := B6.c4))
              | (refine wpList_storeG rfl 24 (.tmp 2) (.tmp 45) rfl w.heap.size _ #[.int .i64 1, .bool false, .int .u64 v8, .int .i64 (v4 - 1048576)] BR6 rfl rfl (by kernel_rfl) rfl (by simp [Value.oneCell']) ?_; intro W7 B7 G7 hs7; have R7 := R6.far' G7 hpl; have HG7 := grown_new HG6 G7 (Nat.le_refl _))
              | (refine wpList_storeG rfl 24 (.tmp 2) (.tmp 45) rfl w.heap.size _ #[.int .i64 1, .bool false, .int .u64 v8, .int .i64 (v4 - 1048576)] (BR6.far (p := ⟨p, 1, none⟩) (by simp; omega) _) rfl rfl (by kernel_rfl) rfl (by simp [Value.oneCell']) ?_; intro W7 B7 G7 hs7; have R7 := (R6.bad true).far' G7 hpl; have HG7 := grown_new (HG6.trans (grown_set _ p 1 _)) G7 (Nat.le_refl _)))
            refine bodyPost_ret (results_cell_row rfl _ _ w.heap.size 24 _ (0, 0) _ rfl B7 Try.underlying24 rfl (by kernel_rfl)) rfl ⟨rfl, ?_, HG7⟩
            simpa [Bool.or_assoc] using R7
        · rw [show decide ((4 : Int) = 4) = true from rfl]
          have HM := Lib.hid (fun W => rmayN_calls 1 true v8 (v4 - 1048576) W)
          generalize mayN ⟨1, true, v8, v4 - 1048576⟩ = mm at HM ⊢
          cases mm
          all_goals
            have hR0 : Rd (w.alloc (.cells #[.int .i64 0, .bool false, .int .u64 0, .int .i64 0] 24)) B p bs bad := hR.alloc _
            have hpl := hR.lt
            have B0 := Blk.new w 24 #[.int .i64 0, .bool false, .int .u64 0, .int .i64 0]
            have HT := Lib.hid (number1_calls B p bs bad _ hR0)
            rw [hv] at HT
            have hg0 : w.heap.size < (w.alloc (.cells #[.int .i64 0, .bool false, .int .u64 0, .int .i64 0] 24)).heap.size := by simp
            clear h0 h2 h4
            go_enter Try.func77, Try.ntmps77
            go_wp2_with (first
              | (go_at_call 76; first
                | ((with_reducible refine HT.out.mono ?_); rintro e w1 ⟨rfl, R1, G1⟩; have B1 := B0.grown G1 (by simp; omega); have HG1 := (grown_alloc (World.grownBy.refl w (some p)) (.cells #[.int .i64 0, .bool false, .int .u64 0, .int .i64 0] 24)).trans G1; have hs1 := G1.size; clear HT)
                | ((with_reducible refine (HW8.out _ _ R2).mono ?_); rintro e w3 ⟨rfl, R3, G3⟩; have B3 := B2.grown G3 (by simp; omega); have BR3 := BR2.grown G3 (by simp; omega); have HG3 := HG2.trans G3; have hs3 := G3.size; clear q0 q1 q2 q3 f0 f1 f2 f3 q9 f9)
                | ((with_reducible refine (HW4.out _ _ R3).mono ?_); rintro e w4 ⟨rfl, R4, G4⟩; have B4 := B3.grown G4 (by simp; omega); have BR4 := BR3.grown G4 (by simp; omega); have HG4 := HG3.trans G4; have hs4 := G4.size))
              | (refine wpList_storeG rfl 24 (.tmp 4) (.tmp 10) rfl w1.heap.size _ #[.int .i64 0, .bool false, .int .u64 0, .int .i64 0] (Blk.new w1 _ _) rfl rfl (by kernel_rfl) rfl (by simp [Value.oneCell']) ?_; intro W2 B2 G2 hs2; have R2 := (R1.alloc _).far' G2 (by omega); have BR2 := (B1.alloc _).grown G2 (by simp; omega); have HG2 := grown_new (grown_alloc HG1 _) G2 (by omega); obtain ⟨⟨q0, q1, q2, q3⟩, ⟨f0, f1, f2, f3⟩⟩ := B2.c4; obtain ⟨q9, f9⟩ := R2.cbad)
              | (refine wpList_storeG rfl 24 (.tmp 4) (.tmp 37) rfl w1.heap.size _ #[.int .i64 1, .bool true, .int .u64 v8, .int .i64 (v4 - 1048576)] B4 rfl rfl (by kernel_rfl) rfl (by simp [Value.oneCell']) ?_; intro W5 B5 G5 hs5; have R5 := R4.far' G5 (by omega); have BR5 := BR4.grown G5 (by simp; omega); have HG5 := grown_new HG4 G5 (by omega); obtain ⟨⟨q0, q1, q2, q3⟩, ⟨f0, f1, f2, f3⟩⟩ := B5.c4)
              | (go_at_call 111; ((with_reducible refine (HM.out _).mono ?_); rintro e w6 ⟨rfl, hb⟩; have B6 := B5.call hb; have BR6 := BR5.call hb; have R6 := R5.below hb; have HG6 := HG5.trans (Below.grownBy hb (some p)); clear q0 q1 q2 q3 f0 f1 f2 f3 hb; obtain ⟨q9, f9⟩ := R6.cbad; obtain ⟨⟨q0, q1, q2, q3⟩, ⟨f0, f1, f2, f3⟩⟩ := B6.c4))
              | (refine wpList_storeG rfl 24 (.tmp 2) (.tmp 45) rfl w.heap.size _ #[.int .i64 1, .bool true, .int .u64 v8, .int .i64 (v4 - 1048576)] BR6 rfl rfl (by kernel_rfl) rfl (by simp [Value.oneCell']) ?_; intro W7 B7 G7 hs7; have R7 := R6.far' G7 hpl; have HG7 := grown_new HG6 G7 (Nat.le_refl _))
              | (refine wpList_storeG rfl 24 (.tmp 2) (.tmp 45) rfl w.heap.size _ #[.int .i64 1, .bool true, .int .u64 v8, .int .i64 (v4 - 1048576)] (BR6.far (p := ⟨p, 1, none⟩) (by simp; omega) _) rfl rfl (by kernel_rfl) rfl (by simp [Value.oneCell']) ?_; intro W7 B7 G7 hs7; have R7 := (R6.bad true).far' G7 hpl; have HG7 := grown_new (HG6.trans (grown_set _ p 1 _)) G7 (Nat.le_refl _)))
            refine bodyPost_ret (results_cell_row rfl _ _ w.heap.size 24 _ (0, 0) _ rfl B7 Try.underlying24 rfl (by kernel_rfl)) rfl ⟨rfl, ?_, HG7⟩
            simpa [Bool.or_assoc] using R7
      · rw [if_neg h4]
        have m0 : (m == 0) = false := beq_eq_false_iff_ne.2 h0
        have m1 : (m == 1) = false := beq_eq_false_iff_ne.2 (by omega)
        have m2 : (m == 2) = false := beq_eq_false_iff_ne.2 (by omega)
        have m3 : (m == 3) = false := beq_eq_false_iff_ne.2 (by omega)
        have m4 : (m == 4) = false := beq_eq_false_iff_ne.2 (by omega)
        have HM := Lib.hid (fun W => rmayN_calls 0 false 0 0 W)
        rw [show mayN ⟨0, false, 0, 0⟩ = true from by decide +kernel] at HM
        clear h0 h2 h4
        dsimp only
        have hR0 : Rd (w.alloc (.cells #[.int .i64 0, .bool false, .int .u64 0, .int .i64 0] 24)) B p bs bad := hR.alloc _
        have hpl := hR.lt
        have B0 := Blk.new w 24 #[.int .i64 0, .bool false, .int .u64 0, .int .i64 0]
        have HT := Lib.hid (number1_calls B p bs bad _ hR0)
        rw [hv] at HT
        have hg0 : w.heap.size < (w.alloc (.cells #[.int .i64 0, .bool false, .int .u64 0, .int .i64 0] 24)).heap.size := by simp
        go_enter Try.func77, Try.ntmps77
        go_wp2_with (first
          | (go_at_call 76; ((with_reducible refine HT.out.mono ?_); rintro e w1 ⟨rfl, R1, G1⟩; have B1 := B0.grown G1 (by simp; omega); have HG1 := (grown_alloc (World.grownBy.refl w (some p)) (.cells #[.int .i64 0, .bool false, .int .u64 0, .int .i64 0] 24)).trans G1; have hs1 := G1.size; clear HT))
          | (refine wpList_storeG rfl 24 (.tmp 4) (.tmp 10) rfl w1.heap.size _ #[.int .i64 0, .bool false, .int .u64 0, .int .i64 0] (Blk.new w1 _ _) rfl rfl (by kernel_rfl) rfl (by simp [Value.oneCell']) ?_; intro W2 B2 G2 hs2; have R2 := (R1.alloc _).far' G2 (by omega); have BR2 := (B1.alloc _).grown G2 (by simp; omega); have HG2 := grown_new (grown_alloc HG1 _) G2 (by omega); obtain ⟨⟨q0, q1, q2, q3⟩, ⟨f0, f1, f2, f3⟩⟩ := B2.c4; obtain ⟨q9, f9⟩ := R2.cbad)
          | (go_at_call 111; ((with_reducible refine (HM.out _).mono ?_); rintro e w6 ⟨rfl, hb⟩; have B6 := (B2.far (p := ⟨p, 1, none⟩) (by simp; omega) _).call hb; have BR6 := (BR2.far (p := ⟨p, 1, none⟩) (by simp; omega) _).call hb; have R6 := (R2.bad true).below hb; have HG6 := (HG2.trans (grown_set _ p 1 _)).trans (Below.grownBy hb (some p)); clear q0 q1 q2 q3 f0 f1 f2 f3 q9 f9 hb; obtain ⟨⟨q0, q1, q2, q3⟩, ⟨f0, f1, f2, f3⟩⟩ := B6.c4))
          | (refine wpList_storeG rfl 24 (.tmp 2) (.tmp 45) rfl w.heap.size _ #[.int .i64 0, .bool false, .int .u64 0, .int .i64 0] BR6 rfl rfl (by kernel_rfl) rfl (by simp [Value.oneCell']) ?_; intro W7 B7 G7 hs7; have R7 := R6.far' G7 hpl; have HG7 := grown_new HG6 G7 (Nat.le_refl _)))
        refine bodyPost_ret (results_cell_row rfl _ _ w.heap.size 24 _ (0, 0) _ rfl B7 Try.underlying24 rfl (by kernel_rfl)) rfl ⟨rfl, ?_, HG7⟩
        simpa using R7
end Go.Proofs.Ytakajahogjeiaab.Wk
