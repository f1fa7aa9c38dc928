/- Walk: (*codec.reader).num. -/
import Derived.Test.YtakajahogjeiaabRdH
import Derived.Test.YtakajahogjeiaabIvA
namespace Go.Proofs.Ytakajahogjeiaab.Wk
open Go.RowKit Go.Proofs.Pl Go.Proofs.YtakajahogjeiaabW.PrintLast
set_option linter.unusedSimpArgs false
set_option linter.unusedVariables false

set_option maxRecDepth 100000 in
set_option maxHeartbeats 4000000 in
theorem cnum_calls (B p : Nat) (bs : List Int) (bad : Bool) (w : World) (hR : Rd w B p bs bad) :
    Calls Try.prog 73 #[.pointer (some ⟨p, 0, none⟩)] w fun e w' => e = .returned (.agg #[.int .i64 ((rdN bs).1).k, .bool ((rdN bs).1).n, .int .u64 ((rdN bs).1).m, .int .i64 ((rdN bs).1).e]) ∧ Rd w' B p (rdN bs).2.1 (bad || (rdN bs).2.2) ∧ w.grownBy w' (some p) := by
  have hby : Byt (tk 1 bs) := (show Byt bs from hR.2.1).tk 1
  obtain ⟨m, hl, hv⟩ := tk_one bs
  have hm : 0 ≤ m ∧ m < 256 := hby m (by rw [hl]; simp)
  obtain ⟨hm0, hm1⟩ := hm
  unfold rdN
  rw [hv]
  by_cases h0 : m = 0
  · rw [if_pos h0]
    subst h0
    dsimp only
    have hR0 : Rd (w.alloc (.cells #[.int .i64 0, .bool false, .int .u64 0, .int .i64 0] 24)) B p bs bad := hR.alloc _
    have hpl := hR.lt
    have hBp := hR.1
    have B0 := Blk.new w 24 #[.int .i64 0, .bool false, .int .u64 0, .int .i64 0]
    have HT := Lib.hid (take1_calls B p bs bad _ hl _ hR0)
    have hg0 : w.heap.size < (w.alloc (.cells #[.int .i64 0, .bool false, .int .u64 0, .int .i64 0] 24)).heap.size := by simp
    go_enter Try.func73, Try.ntmps73
    go_wp2_with (first
      | (go_at_call 72; ((with_reducible refine HT.out.mono ?_); rintro e w1 ⟨b1, off1, rfl, hb1, q1, R1, G1⟩; have B1 := B0.grown G1 (by simp; omega); have HG1 := (grown_alloc (World.grownBy.refl w (some p)) (.cells #[.int .i64 0, .bool false, .int .u64 0, .int .i64 0] 24)).trans G1; have hs1 := G1.size; clear HT))
      | (refine wpList_storeG rfl 24 (.tmp 2) (.tmp 48) rfl w.heap.size _ #[.int .i64 0, .bool false, .int .u64 0, .int .i64 0] B1 rfl rfl (by kernel_rfl) rfl (by simp [Value.oneCell']) ?_; intro W2 B2 G2 hs2))
    exact bodyPost_ret (results_cell_row rfl _ _ w.heap.size 24 #[.int .i64 0, .bool false, .int .u64 0, .int .i64 0] (0, 0) _ rfl B2 Try.underlying24 rfl (by kernel_rfl)) rfl ⟨rfl, R1.far' G2 hpl, grown_new HG1 G2 (Nat.le_refl _)⟩
  · rw [if_neg h0]
    by_cases h2 : m ≤ 2
    · rw [if_pos h2]
      dsimp only
      obtain rfl | rfl : m = 1 ∨ m = 2 := by omega
      all_goals
        have hR0 : Rd (w.alloc (.cells #[.int .i64 0, .bool false, .int .u64 0, .int .i64 0] 24)) B p bs bad := hR.alloc _
        have hpl := hR.lt
        have hBp := hR.1
        have B0 := Blk.new w 24 #[.int .i64 0, .bool false, .int .u64 0, .int .i64 0]
        have HT := Lib.hid (take1_calls B p bs bad _ hl _ hR0)
        have hg0 : w.heap.size < (w.alloc (.cells #[.int .i64 0, .bool false, .int .u64 0, .int .i64 0] 24)).heap.size := by simp
        clear h0 h2
        go_enter Try.func73, Try.ntmps73
        go_wp2_with (first
          | (go_at_call 72; ((with_reducible refine HT.out.mono ?_); rintro e w1 ⟨b1, off1, rfl, hb1, q1, R1, G1⟩; have B1 := B0.grown G1 (by simp; omega); have HG1 := (grown_alloc (World.grownBy.refl w (some p)) (.cells #[.int .i64 0, .bool false, .int .u64 0, .int .i64 0] 24)).trans G1; have hs1 := G1.size; clear HT))
          | (go_at_call 64; ((with_reducible refine (infN_lit _ _).mono ?_); rintro e w2 ⟨rfl, hb⟩; have B2 := B1.call hb; have R2 := R1.below hb; have HG2 := HG1.trans (Below.grownBy hb (some p)); clear hb))
          | (refine wpList_storeG rfl 24 (.tmp 2) (.tmp 23) rfl w.heap.size _ #[.int .i64 2, .bool false, .int .u64 0, .int .i64 0] B2 rfl rfl (by kernel_rfl) rfl (by simp [Value.oneCell']) ?_; intro W3 B3 G3 hs3)
          | (refine wpList_storeG rfl 24 (.tmp 2) (.tmp 23) rfl w.heap.size _ #[.int .i64 2, .bool true, .int .u64 0, .int .i64 0] B2 rfl rfl (by kernel_rfl) rfl (by simp [Value.oneCell']) ?_; intro W3 B3 G3 hs3))
        exact bodyPost_ret (results_cell_row rfl _ _ w.heap.size 24 _ (0, 0) _ rfl B3 Try.underlying24 rfl (by kernel_rfl)) rfl ⟨rfl, R2.far' G3 hpl, grown_new HG2 G3 (Nat.le_refl _)⟩
    · rw [if_neg h2]
      by_cases h4 : m ≤ 4
      · rw [if_pos h4]
        have hby8 : Byt (tk 8 (dr 1 bs)) := ((show Byt bs from hR.2.1).dr 1).tk 8
        have hby4 : Byt (tk 4 (dr 8 (dr 1 bs))) := (((show Byt bs from hR.2.1).dr 1).dr 8).tk 4
        have hv4 := valB_range _ hby4
        rw [tk_length, show (256 : Int) ^ 4 = 4294967296 from by decide] at hv4
        unfold finR
        rw [hv]
        have HW8 := Lib.hid (fun bad W h => rword8_calls B p (dr 1 bs) bad W h)
        have HW4 := Lib.hid (fun bad W h => rword4_calls B p (dr 8 (dr 1 bs)) bad W h)
        generalize valB (tk 8 (dr 1 bs)) = v8 at HW8 ⊢
        generalize valB (tk 4 (dr 8 (dr 1 bs))) = v4 at HW4 hv4 ⊢
        obtain ⟨hv40, hv41⟩ := hv4
        dsimp only
        clear hby8 hby4
        obtain rfl | rfl : m = 3 ∨ m = 4 := by omega
        · rw [show decide ((3 : Int) = 4) = false from rfl]
          have HM := Lib.hid (fun W => mayN_calls 1 false v8 (v4 - 1048576) W)
          generalize mayN ⟨1, false, v8, v4 - 1048576⟩ = mm at HM ⊢
          have hR0 : Rd (w.alloc (.cells #[.int .i64 0, .bool false, .int .u64 0, .int .i64 0] 24)) B p bs bad := hR.alloc _
          have hpl := hR.lt
          have hBp := hR.1
          have B0 := Blk.new w 24 #[.int .i64 0, .bool false, .int .u64 0, .int .i64 0]
          have HT := Lib.hid (take1_calls B p bs bad _ hl _ hR0)
          have hg0 : w.heap.size < (w.alloc (.cells #[.int .i64 0, .bool false, .int .u64 0, .int .i64 0] 24)).heap.size := by simp
          clear h0 h2 h4
          go_enter Try.func73, Try.ntmps73
          go_wp2_with (first
            | (go_at_call 72; ((with_reducible refine HT.out.mono ?_); rintro e w1 ⟨b1, off1, rfl, hb1, q1, R1, G1⟩; have B1 := B0.grown G1 (by simp; omega); have HG1 := (grown_alloc (World.grownBy.refl w (some p)) (.cells #[.int .i64 0, .bool false, .int .u64 0, .int .i64 0] 24)).trans G1; have hs1 := G1.size; clear HT))
            | (go_at_call 109; first
              | ((with_reducible refine (HW8.out _ _ R1).mono ?_); rintro e w2 ⟨rfl, R2, G2⟩; have B2 := B1.grown G2 (by simp; omega); have HG2 := HG1.trans G2; have hs2 := G2.size)
              | ((with_reducible refine (HW4.out _ _ R3).mono ?_); rintro e w4 ⟨rfl, R4, G4⟩; have B4 := B3.grown G4 (by simp; omega); have BR4 := BR3.grown G4 (by simp; omega); have HG4 := HG3.trans G4; have hs4 := G4.size; obtain ⟨⟨q0, q1, q2, q3⟩, ⟨f0, f1, f2, f3⟩⟩ := B4.c4))
            | (refine wpList_storeG rfl 24 (.tmp 4) (.tmp 33) rfl w2.heap.size _ #[.int .i64 1, .bool false, .int .u64 v8, .int .i64 0] (Blk.new w2 _ _) rfl rfl (by kernel_rfl) rfl (by simp [Value.oneCell']) ?_; intro W3 B3 G3 hs3; have R3 := (R2.alloc _).far' G3 (by omega); have BR3 := (B2.alloc _).grown G3 (by simp; omega); have HG3 := grown_new (grown_alloc HG2 _) G3 (by omega)))
          have hgp : p < w2.heap.size := by omega
          have hgr : w.heap.size < w2.heap.size := by omega
          have B5 := B4.set_ 3 (.int .i64 (v4 - 1048576))
          simp only [List.setIfInBounds_toArray, List.set_cons_zero, List.set_cons_succ] at B5
          have G5 := grown_set w4 w2.heap.size 3 (.int .i64 (v4 - 1048576))
          have R5 := R4.far' G5 hgp
          have BR5 := BR4.grown G5 (by simp; omega)
          have HG5 := grown_new HG4 G5 (by omega)
          clear q0 q1 q2 q3 f0 f1 f2 f3
          generalize w4.setCell ⟨w2.heap.size, 3, none⟩ (.int .i64 (v4 - 1048576)) = W5 at B5 G5 R5 BR5 HG5 ⊢
          replace B5 := B5.drew
          replace BR5 := BR5.drew
          replace R5 : Rd W5.drew B p (dr 4 (dr 8 (dr 1 bs))) (bad || sh 1 bs || sh 8 (dr 1 bs) || sh 4 (dr 8 (dr 1 bs))) := R5
          replace HG5 := grown_drew HG5
          refine start_ (n := 6) (S := fun w' => w'.cell? ⟨w2.heap.size, 0, none⟩ = some (.int .i64 1) ∧ w'.cell? ⟨w2.heap.size, 1, none⟩ = some (.bool false) ∧ w'.cell? ⟨w2.heap.size, 2, none⟩ = some (.int .u64 v8) ∧ w'.cell? ⟨w2.heap.size, 3, none⟩ = some (.int .i64 (v4 - 1048576))) (ds := []) #[false, false, false, false, false, false] (by kernel_rfl) rfl rfl ⟨B5.cell 0, B5.cell 1, B5.cell 2, B5.cell 3⟩ (fun hHeld => ?_)
          generalize W5.drew = W6 at B5 BR5 R5 HG5 hHeld ⊢
          refine pure_ (i := 0) (N := some 41) (v := ?_) (a' := ?_) #[true, false, false, false, false, false] rfl rfl (by kernel_rfl) (fun _ _ _ h => h) (Or.inl ⟨by rfl, ?_⟩) ?_ ?_
          rotate_left
          · intro w'
            go_simp
            with_reducible rfl
          rotate_left
          · simp only [Act.put, List.setIfInBounds_toArray, List.set_cons_zero, List.set_cons_succ]
            rfl
          refine pure_ (i := 1) (N := some 42) (v := ?_) (a' := ?_) #[true, true, false, false, false, false] rfl rfl (by kernel_rfl) (fun _ _ _ h => h) (Or.inl ⟨by rfl, ?_⟩) ?_ ?_
          rotate_left
          · intro w'
            go_simp
            with_reducible rfl
          rotate_left
          · simp only [Act.put, List.setIfInBounds_toArray, List.set_cons_zero, List.set_cons_succ]
            rfl
          refine pure_ (i := 2) (N := some 43) (v := ?_) (a' := ?_) #[true, true, true, false, false, false] rfl rfl (by kernel_rfl) (fun _ _ _ h => h) (Or.inl ⟨by rfl, ?_⟩) ?_ ?_
          rotate_left
          · intro w'
            go_simp
            with_reducible rfl
          rotate_left
          · simp only [Act.put, List.setIfInBounds_toArray, List.set_cons_zero, List.set_cons_succ]
            rfl
          refine take_ (i := 3) (N := some 44) (v := ?_) (a' := ?_) #[true, true, true, true, false, false] rfl rfl (by kernel_rfl) (fun _ _ _ h => h) (Or.inl ⟨by rfl, ?_⟩) hHeld ?_ ?_
          rotate_left
          · rintro w' ⟨s0_, s1_, s2_, s3_⟩
            go_simp
            with_reducible rfl
          rotate_left
          · simp only [Act.put, List.setIfInBounds_toArray, List.set_cons_zero, List.set_cons_succ]
            rfl
          refine one_ (i := 4) (N := some 45) #[true, true, true, true, true, false] rfl rfl (by kernel_rfl) (by decide) (fun K hK => ?_)
          refine goes_ Try.func63 (by kernel_rfl) rfl #[.agg #[.int .i64 1, .bool false, .int .u64 v8, .int .i64 (v4 - 1048576)]] (by rfl) rfl rfl (by simp only [List.map_toArray, List.map_cons, List.map_nil] <;> rfl) ?_
          with_reducible refine (HM.out W6).mono ?_
          rintro e w7 ⟨rfl, hb⟩
          refine ⟨_, rfl, ?_⟩
          have B7 := B5.call hb
          have BR7 := BR5.call hb
          have R7 := R5.below hb
          have HG7 := HG5.trans (Below.grownBy hb (some p))
          refine hK.out _ _ ⟨B7.cell 0, B7.cell 1, B7.cell 2, B7.cell 3⟩ (fun hHeld => ?_)
          clear hK K hb
          refine norm_ (a' := ?_) ?_ ?_
          rotate_left
          · show Act.put _ (some 45) _ = _
            simp only [Act.put, List.setIfInBounds_toArray, List.set_cons_zero, List.set_cons_succ]
            rfl
          refine one_ (i := 5) (N := some 46) #[true, true, true, true, true, true] rfl rfl (by kernel_rfl) (by decide) (fun K hK => ?_)
          refine goes_ Try.func110 (by kernel_rfl) rfl #[.pointer (some ⟨p, 0, none⟩), .bool mm] (by rfl) rfl rfl (by simp only [List.map_toArray, List.map_cons, List.map_nil] <;> rfl) ?_
          with_reducible refine (check_calls B p _ _ mm _ R7).mono ?_
          rintro e w8 ⟨⟨v9, rfl⟩, R8, hb⟩
          refine ⟨_, rfl, ?_⟩
          have B8 := B7.grown hb (by simp; omega)
          have BR8 := BR7.grown hb (by simp; omega)
          have HG8 := HG7.trans hb
          refine hK.out _ _ ⟨B8.cell 0, B8.cell 1, B8.cell 2, B8.cell 3⟩ (fun hHeld => ?_)
          clear hK K hb
          refine norm_ (a' := ?_) ?_ ?_
          rotate_left
          · show Act.put _ (some 46) _ = _
            simp only [Act.put, List.setIfInBounds_toArray, List.set_cons_zero, List.set_cons_succ]
            rfl
          refine done_ (by kernel_rfl) ?_
          obtain ⟨⟨q0, q1, q2, q3⟩, ⟨f0, f1, f2, f3⟩⟩ := B8.c4
          go_wp2_with (refine wpList_storeG rfl 24 (.tmp 2) (.tmp 47) rfl w.heap.size _ #[.int .i64 1, .bool false, .int .u64 v8, .int .i64 (v4 - 1048576)] BR8 rfl rfl (by kernel_rfl) rfl (by simp [Value.oneCell']) ?_; intro W9 B9 G9 hs9)
          refine bodyPost_ret (results_cell_row rfl _ _ w.heap.size 24 _ (0, 0) _ rfl B9 Try.underlying24 rfl (by kernel_rfl)) rfl ⟨rfl, ?_, grown_new HG8 G9 (Nat.le_refl _)⟩
          have R9 := R8.far' G9 hpl
          simpa [Bool.or_assoc] using R9
        · rw [show decide ((4 : Int) = 4) = true from rfl]
          have HM := Lib.hid (fun W => mayN_calls 1 true v8 (v4 - 1048576) W)
          generalize mayN ⟨1, true, v8, v4 - 1048576⟩ = mm at HM ⊢
          have hR0 : Rd (w.alloc (.cells #[.int .i64 0, .bool false, .int .u64 0, .int .i64 0] 24)) B p bs bad := hR.alloc _
          have hpl := hR.lt
          have hBp := hR.1
          have B0 := Blk.new w 24 #[.int .i64 0, .bool false, .int .u64 0, .int .i64 0]
          have HT := Lib.hid (take1_calls B p bs bad _ hl _ hR0)
          have hg0 : w.heap.size < (w.alloc (.cells #[.int .i64 0, .bool false, .int .u64 0, .int .i64 0] 24)).heap.size := by simp
          clear h0 h2 h4
          go_enter Try.func73, Try.ntmps73
          go_wp2_with (first
            | (go_at_call 72; ((with_reducible refine HT.out.mono ?_); rintro e w1 ⟨b1, off1, rfl, hb1, q1, R1, G1⟩; have B1 := B0.grown G1 (by simp; omega); have HG1 := (grown_alloc (World.grownBy.refl w (some p)) (.cells #[.int .i64 0, .bool false, .int .u64 0, .int .i64 0] 24)).trans G1; have hs1 := G1.size; clear HT))
            | (go_at_call 109; first
              | ((with_reducible refine (HW8.out _ _ R1).mono ?_); rintro e w2 ⟨rfl, R2, G2⟩; have B2 := B1.grown G2 (by simp; omega); have HG2 := HG1.trans G2; have hs2 := G2.size)
              | ((with_reducible refine (HW4.out _ _ R3).mono ?_); rintro e w4 ⟨rfl, R4, G4⟩; have B4 := B3.grown G4 (by simp; omega); have BR4 := BR3.grown G4 (by simp; omega); have HG4 := HG3.trans G4; have hs4 := G4.size; obtain ⟨⟨q0, q1, q2, q3⟩, ⟨f0, f1, f2, f3⟩⟩ := B4.c4))
            | (refine wpList_storeG rfl 24 (.tmp 4) (.tmp 33) rfl w2.heap.size _ #[.int .i64 1, .bool true, .int .u64 v8, .int .i64 0] (Blk.new w2 _ _) rfl rfl (by kernel_rfl) rfl (by simp [Value.oneCell']) ?_; intro W3 B3 G3 hs3; have R3 := (R2.alloc _).far' G3 (by omega); have BR3 := (B2.alloc _).grown G3 (by simp; omega); have HG3 := grown_new (grown_alloc HG2 _) G3 (by omega)))
          have hgp : p < w2.heap.size := by omega
          have hgr : w.heap.size < w2.heap.size := by omega
          have B5 := B4.set_ 3 (.int .i64 (v4 - 1048576))
          simp only [List.setIfInBounds_toArray, List.set_cons_zero, List.set_cons_succ] at B5
          have G5 := grown_set w4 w2.heap.size 3 (.int .i64 (v4 - 1048576))
          have R5 := R4.far' G5 hgp
          have BR5 := BR4.grown G5 (by simp; omega)
          have HG5 := grown_new HG4 G5 (by omega)
          clear q0 q1 q2 q3 f0 f1 f2 f3
          generalize w4.setCell ⟨w2.heap.size, 3, none⟩ (.int .i64 (v4 - 1048576)) = W5 at B5 G5 R5 BR5 HG5 ⊢
          replace B5 := B5.drew
          replace BR5 := BR5.drew
          replace R5 : Rd W5.drew B p (dr 4 (dr 8 (dr 1 bs))) (bad || sh 1 bs || sh 8 (dr 1 bs) || sh 4 (dr 8 (dr 1 bs))) := R5
          replace HG5 := grown_drew HG5
          refine start_ (n := 6) (S := fun w' => w'.cell? ⟨w2.heap.size, 0, none⟩ = some (.int .i64 1) ∧ w'.cell? ⟨w2.heap.size, 1, none⟩ = some (.bool true) ∧ w'.cell? ⟨w2.heap.size, 2, none⟩ = some (.int .u64 v8) ∧ w'.cell? ⟨w2.heap.size, 3, none⟩ = some (.int .i64 (v4 - 1048576))) (ds := []) #[false, false, false, false, false, false] (by kernel_rfl) rfl rfl ⟨B5.cell 0, B5.cell 1, B5.cell 2, B5.cell 3⟩ (fun hHeld => ?_)
          generalize W5.drew = W6 at B5 BR5 R5 HG5 hHeld ⊢
          refine pure_ (i := 0) (N := some 41) (v := ?_) (a' := ?_) #[true, false, false, false, false, false] rfl rfl (by kernel_rfl) (fun _ _ _ h => h) (Or.inl ⟨by rfl, ?_⟩) ?_ ?_
          rotate_left
          · intro w'
            go_simp
            with_reducible rfl
          rotate_left
          · simp only [Act.put, List.setIfInBounds_toArray, List.set_cons_zero, List.set_cons_succ]
            rfl
          refine pure_ (i := 1) (N := some 42) (v := ?_) (a' := ?_) #[true, true, false, false, false, false] rfl rfl (by kernel_rfl) (fun _ _ _ h => h) (Or.inl ⟨by rfl, ?_⟩) ?_ ?_
          rotate_left
          · intro w'
            go_simp
            with_reducible rfl
          rotate_left
          · simp only [Act.put, List.setIfInBounds_toArray, List.set_cons_zero, List.set_cons_succ]
            rfl
          refine pure_ (i := 2) (N := some 43) (v := ?_) (a' := ?_) #[true, true, true, false, false, false] rfl rfl (by kernel_rfl) (fun _ _ _ h => h) (Or.inl ⟨by rfl, ?_⟩) ?_ ?_
          rotate_left
          · intro w'
            go_simp
            with_reducible rfl
          rotate_left
          · simp only [Act.put, List.setIfInBounds_toArray, List.set_cons_zero, List.set_cons_succ]
            rfl
          refine take_ (i := 3) (N := some 44) (v := ?_) (a' := ?_) #[true, true, true, true, false, false] rfl rfl (by kernel_rfl) (fun _ _ _ h => h) (Or.inl ⟨by rfl, ?_⟩) hHeld ?_ ?_
          rotate_left
          · rintro w' ⟨s0_, s1_, s2_, s3_⟩
            go_simp
            with_reducible rfl
          rotate_left
          · simp only [Act.put, List.setIfInBounds_toArray, List.set_cons_zero, List.set_cons_succ]
            rfl
          refine one_ (i := 4) (N := some 45) #[true, true, true, true, true, false] rfl rfl (by kernel_rfl) (by decide) (fun K hK => ?_)
          refine goes_ Try.func63 (by kernel_rfl) rfl #[.agg #[.int .i64 1, .bool true, .int .u64 v8, .int .i64 (v4 - 1048576)]] (by rfl) rfl rfl (by simp only [List.map_toArray, List.map_cons, List.map_nil] <;> rfl) ?_
          with_reducible refine (HM.out W6).mono ?_
          rintro e w7 ⟨rfl, hb⟩
          refine ⟨_, rfl, ?_⟩
          have B7 := B5.call hb
          have BR7 := BR5.call hb
          have R7 := R5.below hb
          have HG7 := HG5.trans (Below.grownBy hb (some p))
          refine hK.out _ _ ⟨B7.cell 0, B7.cell 1, B7.cell 2, B7.cell 3⟩ (fun hHeld => ?_)
          clear hK K hb
          refine norm_ (a' := ?_) ?_ ?_
          rotate_left
          · show Act.put _ (some 45) _ = _
            simp only [Act.put, List.setIfInBounds_toArray, List.set_cons_zero, List.set_cons_succ]
            rfl
          refine one_ (i := 5) (N := some 46) #[true, true, true, true, true, true] rfl rfl (by kernel_rfl) (by decide) (fun K hK => ?_)
          refine goes_ Try.func110 (by kernel_rfl) rfl #[.pointer (some ⟨p, 0, none⟩), .bool mm] (by rfl) rfl rfl (by simp only [List.map_toArray, List.map_cons, List.map_nil] <;> rfl) ?_
          with_reducible refine (check_calls B p _ _ mm _ R7).mono ?_
          rintro e w8 ⟨⟨v9, rfl⟩, R8, hb⟩
          refine ⟨_, rfl, ?_⟩
          have B8 := B7.grown hb (by simp; omega)
          have BR8 := BR7.grown hb (by simp; omega)
          have HG8 := HG7.trans hb
          refine hK.out _ _ ⟨B8.cell 0, B8.cell 1, B8.cell 2, B8.cell 3⟩ (fun hHeld => ?_)
          clear hK K hb
          refine norm_ (a' := ?_) ?_ ?_
          rotate_left
          · show Act.put _ (some 46) _ = _
            simp only [Act.put, List.setIfInBounds_toArray, List.set_cons_zero, List.set_cons_succ]
            rfl
          refine done_ (by kernel_rfl) ?_
          obtain ⟨⟨q0, q1, q2, q3⟩, ⟨f0, f1, f2, f3⟩⟩ := B8.c4
          go_wp2_with (refine wpList_storeG rfl 24 (.tmp 2) (.tmp 47) rfl w.heap.size _ #[.int .i64 1, .bool true, .int .u64 v8, .int .i64 (v4 - 1048576)] BR8 rfl rfl (by kernel_rfl) rfl (by simp [Value.oneCell']) ?_; intro W9 B9 G9 hs9)
          refine bodyPost_ret (results_cell_row rfl _ _ w.heap.size 24 _ (0, 0) _ rfl B9 Try.underlying24 rfl (by kernel_rfl)) rfl ⟨rfl, ?_, grown_new HG8 G9 (Nat.le_refl _)⟩
          have R9 := R8.far' G9 hpl
          simpa [Bool.or_assoc] using R9
      · rw [if_neg h4]
        have m0 : (m == 0) = false := beq_eq_false_iff_ne.2 h0
        have m1 : (m == 1) = false := beq_eq_false_iff_ne.2 (by omega)
        have m2 : (m == 2) = false := beq_eq_false_iff_ne.2 (by omega)
        have m3 : (m == 3) = false := beq_eq_false_iff_ne.2 (by omega)
        have m4 : (m == 4) = false := beq_eq_false_iff_ne.2 (by omega)
        clear h0 h2 h4
        dsimp only
        have hR0 : Rd (w.alloc (.cells #[.int .i64 0, .bool false, .int .u64 0, .int .i64 0] 24)) B p bs bad := hR.alloc _
        have hpl := hR.lt
        have hBp := hR.1
        have B0 := Blk.new w 24 #[.int .i64 0, .bool false, .int .u64 0, .int .i64 0]
        have HT := Lib.hid (take1_calls B p bs bad _ hl _ hR0)
        have hg0 : w.heap.size < (w.alloc (.cells #[.int .i64 0, .bool false, .int .u64 0, .int .i64 0] 24)).heap.size := by simp
        go_enter Try.func73, Try.ntmps73
        go_wp2_with (first
          | (go_at_call 72; ((with_reducible refine HT.out.mono ?_); rintro e w1 ⟨b1, off1, rfl, hb1, q1, R1, G1⟩; have B1 := B0.grown G1 (by simp; omega); have HG1 := (grown_alloc (World.grownBy.refl w (some p)) (.cells #[.int .i64 0, .bool false, .int .u64 0, .int .i64 0] 24)).trans G1; have hs1 := G1.size; clear HT))
          | (go_at_call 110; ((with_reducible refine (check_calls B p _ _ false _ R1).mono ?_); rintro e w2 ⟨⟨v2, rfl⟩, R2, G2⟩; have B2 := B1.grown G2 (by simp; omega); have HG2 := HG1.trans G2))
          | (refine wpList_storeG rfl 24 (.tmp 2) (.tmp 48) rfl w.heap.size _ #[.int .i64 0, .bool false, .int .u64 0, .int .i64 0] B2 rfl rfl (by kernel_rfl) rfl (by simp [Value.oneCell']) ?_; intro W3 B3 G3 hs3))
        refine bodyPost_ret (results_cell_row rfl _ _ w.heap.size 24 #[.int .i64 0, .bool false, .int .u64 0, .int .i64 0] (0, 0) _ rfl B3 Try.underlying24 rfl (by kernel_rfl)) rfl ⟨rfl, ?_, grown_new HG2 G3 (Nat.le_refl _)⟩
        have R3 := R2.far' G3 hpl
        simpa using R3
end Go.Proofs.Ytakajahogjeiaab.Wk
