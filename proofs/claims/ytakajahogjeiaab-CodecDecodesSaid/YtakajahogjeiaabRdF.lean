/- Walk: (*codec.reader).iv. -/
import Derived.Test.YtakajahogjeiaabRdE
import Derived.Test.YtakajahogjeiaabRefI
namespace Go.Proofs.Ytakajahogjeiaab.Wk
open Go.RowKit Go.Proofs.Pl Go.Proofs.YtakajahogjeiaabW.PrintLast
set_option linter.unusedSimpArgs false
set_option linter.unusedVariables false

theorem ex3' {α β γ : Type} (p : α × β × γ) : ∃ a b c, p = (a, b, c) := ⟨p.1, p.2.1, p.2.2, rfl⟩
theorem rdI_one {bs r1 r2 : List Int} {lo hi : Num} {b1 b2 : Bool} (h0 : valB (tk 1 bs) ≠ 0) (h1 : rdN (dr 1 bs) = (lo, r1, b1)) (h2 : rdN r1 = (hi, r2, b2)) :
    rdI bs = (⟨false, lo, hi⟩, r2, (((sh 1 bs || !(decide (valB (tk 1 bs) = 1))) || b1) || b2) || !mayI ⟨false, lo, hi⟩) := by
  unfold rdI ivR
  rw [if_neg h0, h1]
  dsimp only
  rw [h2]
theorem rdI_zero {bs : List Int} (h0 : valB (tk 1 bs) = 0) : rdI bs = (noneI, dr 1 bs, sh 1 bs) := by
  unfold rdI
  rw [if_pos h0]
theorem size_alloc2 (w : World) (o o' : Obj) : ((w.alloc o).alloc o').heap.size = w.heap.size + 1 + 1 := by simp
set_option maxRecDepth 100000 in
set_option maxHeartbeats 4000000 in
theorem civ_calls (B p : Nat) (bs : List Int) (bad : Bool) (w : World) (hR : Rd w B p bs bad) :
    Calls Try.prog 74 #[.pointer (some ⟨p, 0, none⟩)] w fun e w' => e = .returned (.agg #[.bool ((rdI bs).1).emp, .int .i64 (((rdI bs).1).lo).k, .bool (((rdI bs).1).lo).n, .int .u64 (((rdI bs).1).lo).m, .int .i64 (((rdI bs).1).lo).e, .int .i64 (((rdI bs).1).hi).k, .bool (((rdI bs).1).hi).n, .int .u64 (((rdI bs).1).hi).m, .int .i64 (((rdI bs).1).hi).e]) ∧ Rd w' B p (rdI bs).2.1 (bad || (rdI bs).2.2) ∧ w.grownBy w' (some p) := by
  have hby : Byt (tk 1 bs) := (show Byt bs from hR.2.1).tk 1
  obtain ⟨m, hl, hv⟩ := tk_one bs
  have hm : 0 ≤ m ∧ m < 256 := hby m (by rw [hl]; simp)
  obtain ⟨hm0, hm1⟩ := hm
  by_cases h0 : m = 0
  · rw [rdI_zero (by omega)]
    subst h0
    dsimp only [noneI, zero]
    have hR0 : Rd ((w.alloc (.cells #[.bool false, .int .i64 0, .bool false, .int .u64 0, .int .i64 0, .int .i64 0, .bool false, .int .u64 0, .int .i64 0] 26)).alloc (.cells #[.bool false, .int .i64 0, .bool false, .int .u64 0, .int .i64 0, .int .i64 0, .bool false, .int .u64 0, .int .i64 0] 26)) B p bs bad := (hR.alloc _).alloc _
    have hpl := hR.lt
    have B0 := (Blk.new w 26 #[.bool false, .int .i64 0, .bool false, .int .u64 0, .int .i64 0, .int .i64 0, .bool false, .int .u64 0, .int .i64 0]).alloc (.cells #[.bool false, .int .i64 0, .bool false, .int .u64 0, .int .i64 0, .int .i64 0, .bool false, .int .u64 0, .int .i64 0] 26)
    have X0 := Blk.new1 w (.cells #[.bool false, .int .i64 0, .bool false, .int .u64 0, .int .i64 0, .int .i64 0, .bool false, .int .u64 0, .int .i64 0] 26) 26 #[.bool false, .int .i64 0, .bool false, .int .u64 0, .int .i64 0, .int .i64 0, .bool false, .int .u64 0, .int .i64 0]
    have HG0 := grown_alloc (grown_alloc (World.grownBy.refl w (some p)) (.cells #[.bool false, .int .i64 0, .bool false, .int .u64 0, .int .i64 0, .int .i64 0, .bool false, .int .u64 0, .int .i64 0] 26)) (.cells #[.bool false, .int .i64 0, .bool false, .int .u64 0, .int .i64 0, .int .i64 0, .bool false, .int .u64 0, .int .i64 0] 26)
    have HT := Lib.hid (take1_calls B p bs bad _ hl _ hR0)
    go_enter Try.func74, Try.ntmps74
    go_wp2_with (first
      | (go_at_call 72; ((with_reducible refine HT.out.mono ?_); rintro e w1 ⟨b1, off1, rfl, hb1, q1, R1, G1⟩; have B1 := B0.grown G1 (by simp; omega); have HG1 := HG0.trans G1; clear HT))
      | (go_at_call 19; ((with_reducible refine (noneI_lit _).mono ?_); rintro e w2 ⟨rfl, hb⟩; have B2 := B1.call hb; have R2 := R1.below hb; have HG2 := HG1.trans (Below.grownBy hb (some p)); clear hb))
      | (refine wpList_storeG rfl 26 (.tmp 2) (.tmp 14) rfl w.heap.size _ #[.bool true, .int .i64 0, .bool false, .int .u64 0, .int .i64 0, .int .i64 0, .bool false, .int .u64 0, .int .i64 0] B2 rfl rfl (by kernel_rfl) rfl (by simp [Value.oneCell']) ?_; intro W3 B3 G3 hs3))
    exact bodyPost_ret (results_cell_row rfl _ _ w.heap.size 26 _ (0, 0) _ rfl B3 Try.underlying26 rfl (by kernel_rfl)) rfl ⟨rfl, R2.far' G3 hpl, grown_new HG2 G3 (Nat.le_refl _)⟩
  · by_cases h1 : m = 1
    · subst h1
      obtain ⟨⟨x1, x2, x3, x4⟩, r1, b1, e1⟩ := ex3' (rdN (dr 1 bs))
      obtain ⟨⟨y1, y2, y3, y4⟩, r2, b2, e2⟩ := ex3' (rdN r1)
      rw [rdI_one (by omega) e1 e2, hv]
      have HN1 := Lib.hid (fun bad W h => cnum_calls B p (dr 1 bs) bad W h)
      have HN2 := Lib.hid (fun bad W h => cnum_calls B p r1 bad W h)
      rw [e1] at HN1
      rw [e2] at HN2
      have HM := Lib.hid (fun W => mayI_calls false x1 x2 x3 x4 y1 y2 y3 y4 W)
      dsimp only at HN1 HN2 HM ⊢
      generalize mayI ⟨false, ⟨x1, x2, x3, x4⟩, ⟨y1, y2, y3, y4⟩⟩ = mm at HM ⊢
      have hR0 : Rd ((w.alloc (.cells #[.bool false, .int .i64 0, .bool false, .int .u64 0, .int .i64 0, .int .i64 0, .bool false, .int .u64 0, .int .i64 0] 26)).alloc (.cells #[.bool false, .int .i64 0, .bool false, .int .u64 0, .int .i64 0, .int .i64 0, .bool false, .int .u64 0, .int .i64 0] 26)) B p bs bad := (hR.alloc _).alloc _
      have hpl := hR.lt
      have B0 := (Blk.new w 26 #[.bool false, .int .i64 0, .bool false, .int .u64 0, .int .i64 0, .int .i64 0, .bool false, .int .u64 0, .int .i64 0]).alloc (.cells #[.bool false, .int .i64 0, .bool false, .int .u64 0, .int .i64 0, .int .i64 0, .bool false, .int .u64 0, .int .i64 0] 26)
      have X0 := Blk.new1 w (.cells #[.bool false, .int .i64 0, .bool false, .int .u64 0, .int .i64 0, .int .i64 0, .bool false, .int .u64 0, .int .i64 0] 26) 26 #[.bool false, .int .i64 0, .bool false, .int .u64 0, .int .i64 0, .int .i64 0, .bool false, .int .u64 0, .int .i64 0]
      have HG0 := grown_alloc (grown_alloc (World.grownBy.refl w (some p)) (.cells #[.bool false, .int .i64 0, .bool false, .int .u64 0, .int .i64 0, .int .i64 0, .bool false, .int .u64 0, .int .i64 0] 26)) (.cells #[.bool false, .int .i64 0, .bool false, .int .u64 0, .int .i64 0, .int .i64 0, .bool false, .int .u64 0, .int .i64 0] 26)
      have HT := Lib.hid (take1_calls B p bs bad _ hl _ hR0)
      clear h0
      go_enter Try.func74, Try.ntmps74
      go_wp2_with (first
        | (go_at_call 72; ((with_reducible refine HT.out.mono ?_); rintro e w1 ⟨c1, off1, rfl, hb1, q1, R1, G1⟩; have B1 := B0.grown G1 (by simp; omega); have X1 := X0.grown G1 (by simp; omega); have HG1 := HG0.trans G1; have hs1 := G1.size; simp only [size_alloc2] at hs1; clear HT))
        | (go_at_call 110; ((with_reducible refine (check_calls B p _ _ false _ R1).mono ?_); rintro e w2 ⟨⟨v2, rfl⟩, R2, G2⟩; replace B1 := B1.grown G2 (by simp; omega); replace X1 := X1.grown G2 (by simp; omega); replace HG1 := HG1.trans G2; replace hs1 := Nat.le_trans hs1 G2.size; clear R1; have R1 := R2; clear R2))
        | (go_at_call 73; first
          | ((with_reducible refine (HN1.out _ _ R1).mono ?_); rintro e w3 ⟨rfl, R3, G3⟩; have B3 := B1.grown G3 (by simp; omega); have X3 := X1.grown G3 (by simp; omega); have HG3 := HG1.trans G3; have hs3 := Nat.le_trans hs1 G3.size)
          | ((with_reducible refine (HN2.out _ _ R4).mono ?_); rintro e w5 ⟨rfl, R5, G5⟩; have B5 := B4.grown G5 (by simp; omega); have X5 := X4.grown G5 (by simp; omega); have HG5 := HG4.trans G5))
        | (refine wpList_storeM rfl 24 (.tmp 21) (.tmp 20) rfl (w.heap.size + 1) 1 _ _ #[.int .i64 x1, .bool x2, .int .u64 x3, .int .i64 x4] #[.bool false, .int .i64 x1, .bool x2, .int .u64 x3, .int .i64 x4, .int .i64 0, .bool false, .int .u64 0, .int .i64 0] X3 rfl rfl (by kernel_rfl) (by simp) (by simp [Value.oneCell']) rfl ?_; intro W4 X4 G4 hs4; have R4 := R3.far' G4 (by omega); have B4 := B3.grown G4 (by simp); have HG4 := grown_new HG3 G4 (by omega))
        | (refine wpList_storeM rfl 24 (.tmp 24) (.tmp 23) rfl (w.heap.size + 1) 5 _ _ #[.int .i64 y1, .bool y2, .int .u64 y3, .int .i64 y4] #[.bool false, .int .i64 x1, .bool x2, .int .u64 x3, .int .i64 x4, .int .i64 y1, .bool y2, .int .u64 y3, .int .i64 y4] X5 rfl rfl (by kernel_rfl) (by simp) (by simp [Value.oneCell']) rfl ?_; intro W6 X6 G6 hs6; have R6 := R5.far' G6 (by omega); have B6 := B5.grown G6 (by simp); have HG6 := grown_new HG5 G6 (by omega)))
      replace B6 := B6.drew
      replace X6 := X6.drew
      have R6' : Rd W6.drew B p r2 _ := R6
      clear R6
      replace HG6 := grown_drew HG6
      refine start_ (n := 6) (S := fun w' => w'.cell? ⟨w.heap.size + 1, 0, none⟩ = some (.bool false) ∧ w'.cell? ⟨w.heap.size + 1, 1, none⟩ = some (.int .i64 x1) ∧ w'.cell? ⟨w.heap.size + 1, 2, none⟩ = some (.bool x2) ∧ w'.cell? ⟨w.heap.size + 1, 3, none⟩ = some (.int .u64 x3) ∧ w'.cell? ⟨w.heap.size + 1, 4, none⟩ = some (.int .i64 x4) ∧ w'.cell? ⟨w.heap.size + 1, 5, none⟩ = some (.int .i64 y1) ∧ w'.cell? ⟨w.heap.size + 1, 6, none⟩ = some (.bool y2) ∧ w'.cell? ⟨w.heap.size + 1, 7, none⟩ = some (.int .u64 y3) ∧ w'.cell? ⟨w.heap.size + 1, 8, none⟩ = some (.int .i64 y4)) (ds := []) #[false, false, false, false, false, false] (by kernel_rfl) rfl rfl ⟨X6.cell 0, X6.cell 1, X6.cell 2, X6.cell 3, X6.cell 4, X6.cell 5, X6.cell 6, X6.cell 7, X6.cell 8⟩ (fun hHeld => ?_)
      generalize W6.drew = W7 at B6 X6 R6' HG6 hHeld ⊢
      refine pure_ (i := 0) (N := some 25) (v := ?_) (a' := ?_) #[true, false, false, false, false, false] rfl rfl (by kernel_rfl) (fun _ _ _ h => h) (Or.inl ⟨by rfl, ?_⟩) ?_ ?_
      rotate_left
      · intro w'
        go_simp
        with_reducible rfl
      rotate_left
      · simp only [Act.put, List.setIfInBounds_toArray, List.set_cons_zero, List.set_cons_succ]
        rfl
      refine pure_ (i := 1) (N := some 26) (v := ?_) (a' := ?_) #[true, true, false, false, false, false] rfl rfl (by kernel_rfl) (fun _ _ _ h => h) (Or.inl ⟨by rfl, ?_⟩) ?_ ?_
      rotate_left
      · intro w'
        go_simp
        with_reducible rfl
      rotate_left
      · simp only [Act.put, List.setIfInBounds_toArray, List.set_cons_zero, List.set_cons_succ]
        rfl
      refine pure_ (i := 2) (N := some 27) (v := ?_) (a' := ?_) #[true, true, true, false, false, false] rfl rfl (by kernel_rfl) (fun _ _ _ h => h) (Or.inl ⟨by rfl, ?_⟩) ?_ ?_
      rotate_left
      · intro w'
        go_simp
        with_reducible rfl
      rotate_left
      · simp only [Act.put, List.setIfInBounds_toArray, List.set_cons_zero, List.set_cons_succ]
        rfl
      refine take_ (i := 3) (N := some 28) (v := ?_) (a' := ?_) #[true, true, true, true, false, false] rfl rfl (by kernel_rfl) (fun _ _ _ h => h) (Or.inl ⟨by rfl, ?_⟩) hHeld ?_ ?_
      rotate_left
      · rintro w' ⟨s0_, s1_, s2_, s3_, s4_, s5_, s6_, s7_, s8_⟩
        go_simp
        with_reducible rfl
      rotate_left
      · simp only [Act.put, List.setIfInBounds_toArray, List.set_cons_zero, List.set_cons_succ]
        rfl
      refine one_ (i := 4) (N := some 29) #[true, true, true, true, true, false] rfl rfl (by kernel_rfl) (by decide) (fun K hK => ?_)
      refine goes_ Try.func15 (by kernel_rfl) rfl #[.agg #[.bool false, .int .i64 x1, .bool x2, .int .u64 x3, .int .i64 x4, .int .i64 y1, .bool y2, .int .u64 y3, .int .i64 y4]] (by rfl) rfl rfl (by simp only [List.map_toArray, List.map_cons, List.map_nil] <;> rfl) ?_
      with_reducible refine (HM.out W7).mono ?_
      rintro e w8 ⟨rfl, hb⟩
      refine ⟨_, rfl, ?_⟩
      have B8 := B6.call hb
      have X8 := X6.call hb
      have R8 := R6'.below hb
      have HG8 := HG6.trans (Below.grownBy hb (some p))
      refine hK.out _ _ ⟨X8.cell 0, X8.cell 1, X8.cell 2, X8.cell 3, X8.cell 4, X8.cell 5, X8.cell 6, X8.cell 7, X8.cell 8⟩ (fun hHeld => ?_)
      clear hK K hb
      refine norm_ (a' := ?_) ?_ ?_
      rotate_left
      · show Act.put _ (some 29) _ = _
        simp only [Act.put, List.setIfInBounds_toArray, List.set_cons_zero, List.set_cons_succ]
        rfl
      refine one_ (i := 5) (N := some 30) #[true, true, true, true, true, true] rfl rfl (by kernel_rfl) (by decide) (fun K hK => ?_)
      refine goes_ Try.func110 (by kernel_rfl) rfl #[.pointer (some ⟨p, 0, none⟩), .bool mm] (by rfl) rfl rfl (by simp only [List.map_toArray, List.map_cons, List.map_nil] <;> rfl) ?_
      with_reducible refine (check_calls B p _ _ mm _ R8).mono ?_
      rintro e w9 ⟨⟨v9, rfl⟩, R9, hb⟩
      refine ⟨_, rfl, ?_⟩
      have B9 := B8.grown hb (by simp; omega)
      have X9 := X8.grown hb (by simp; omega)
      have HG9 := HG8.trans hb
      refine hK.out _ _ ⟨X9.cell 0, X9.cell 1, X9.cell 2, X9.cell 3, X9.cell 4, X9.cell 5, X9.cell 6, X9.cell 7, X9.cell 8⟩ (fun hHeld => ?_)
      clear hK K hb
      refine norm_ (a' := ?_) ?_ ?_
      rotate_left
      · show Act.put _ (some 30) _ = _
        simp only [Act.put, List.setIfInBounds_toArray, List.set_cons_zero, List.set_cons_succ]
        rfl
      refine done_ (by kernel_rfl) ?_
      go_wp2_with (first
        | (refine wpList_load_row rfl 26 (.tmp 3) rfl (w.heap.size + 1) rfl 26 _ (0, 0) _ X9 Try.underlying26 rfl (by kernel_rfl) ?_)
        | (refine wpList_storeG rfl 26 (.tmp 2) (.tmp 31) rfl w.heap.size _ #[.bool false, .int .i64 x1, .bool x2, .int .u64 x3, .int .i64 x4, .int .i64 y1, .bool y2, .int .u64 y3, .int .i64 y4] B9 rfl rfl (by kernel_rfl) rfl (by simp [Value.oneCell']) ?_; intro WA BA GA hsA))
      refine bodyPost_ret (results_cell_row rfl _ _ w.heap.size 26 _ (0, 0) _ rfl BA Try.underlying26 rfl (by kernel_rfl)) rfl ⟨rfl, ?_, grown_new HG9 GA (Nat.le_refl _)⟩
      have RA := R9.far' GA hpl
      simpa [Bool.or_assoc] using RA
    · have m0 : (m == 0) = false := beq_eq_false_iff_ne.2 h0
      have m1 : (m == 1) = false := beq_eq_false_iff_ne.2 h1
      obtain ⟨⟨x1, x2, x3, x4⟩, r1, b1, e1⟩ := ex3' (rdN (dr 1 bs))
      obtain ⟨⟨y1, y2, y3, y4⟩, r2, b2, e2⟩ := ex3' (rdN r1)
      rw [rdI_one (by omega) e1 e2, hv]
      have HN1 := Lib.hid (fun bad W h => cnum_calls B p (dr 1 bs) bad W h)
      have HN2 := Lib.hid (fun bad W h => cnum_calls B p r1 bad W h)
      rw [e1] at HN1
      rw [e2] at HN2
      have HM := Lib.hid (fun W => mayI_calls false x1 x2 x3 x4 y1 y2 y3 y4 W)
      dsimp only at HN1 HN2 HM ⊢
      generalize mayI ⟨false, ⟨x1, x2, x3, x4⟩, ⟨y1, y2, y3, y4⟩⟩ = mm at HM ⊢
      have hR0 : Rd ((w.alloc (.cells #[.bool false, .int .i64 0, .bool false, .int .u64 0, .int .i64 0, .int .i64 0, .bool false, .int .u64 0, .int .i64 0] 26)).alloc (.cells #[.bool false, .int .i64 0, .bool false, .int .u64 0, .int .i64 0, .int .i64 0, .bool false, .int .u64 0, .int .i64 0] 26)) B p bs bad := (hR.alloc _).alloc _
      have hpl := hR.lt
      have B0 := (Blk.new w 26 #[.bool false, .int .i64 0, .bool false, .int .u64 0, .int .i64 0, .int .i64 0, .bool false, .int .u64 0, .int .i64 0]).alloc (.cells #[.bool false, .int .i64 0, .bool false, .int .u64 0, .int .i64 0, .int .i64 0, .bool false, .int .u64 0, .int .i64 0] 26)
      have X0 := Blk.new1 w (.cells #[.bool false, .int .i64 0, .bool false, .int .u64 0, .int .i64 0, .int .i64 0, .bool false, .int .u64 0, .int .i64 0] 26) 26 #[.bool false, .int .i64 0, .bool false, .int .u64 0, .int .i64 0, .int .i64 0, .bool false, .int .u64 0, .int .i64 0]
      have HG0 := grown_alloc (grown_alloc (World.grownBy.refl w (some p)) (.cells #[.bool false, .int .i64 0, .bool false, .int .u64 0, .int .i64 0, .int .i64 0, .bool false, .int .u64 0, .int .i64 0] 26)) (.cells #[.bool false, .int .i64 0, .bool false, .int .u64 0, .int .i64 0, .int .i64 0, .bool false, .int .u64 0, .int .i64 0] 26)
      have HT := Lib.hid (take1_calls B p bs bad _ hl _ hR0)
      clear h0
      go_enter Try.func74, Try.ntmps74
      go_wp2_with (first
        | (go_at_call 72; ((with_reducible refine HT.out.mono ?_); rintro e w1 ⟨c1, off1, rfl, hb1, q1, R1, G1⟩; have B1 := B0.grown G1 (by simp; omega); have X1 := X0.grown G1 (by simp; omega); have HG1 := HG0.trans G1; have hs1 := G1.size; simp only [size_alloc2] at hs1; clear HT))
        | (go_at_call 110; ((with_reducible refine (check_calls B p _ _ false _ R1).mono ?_); rintro e w2 ⟨⟨v2, rfl⟩, R2, G2⟩; replace B1 := B1.grown G2 (by simp; omega); replace X1 := X1.grown G2 (by simp; omega); replace HG1 := HG1.trans G2; replace hs1 := Nat.le_trans hs1 G2.size; clear R1; have R1 := R2; clear R2))
        | (go_at_call 73; first
          | ((with_reducible refine (HN1.out _ _ R1).mono ?_); rintro e w3 ⟨rfl, R3, G3⟩; have B3 := B1.grown G3 (by simp; omega); have X3 := X1.grown G3 (by simp; omega); have HG3 := HG1.trans G3; have hs3 := Nat.le_trans hs1 G3.size)
          | ((with_reducible refine (HN2.out _ _ R4).mono ?_); rintro e w5 ⟨rfl, R5, G5⟩; have B5 := B4.grown G5 (by simp; omega); have X5 := X4.grown G5 (by simp; omega); have HG5 := HG4.trans G5))
        | (refine wpList_storeM rfl 24 (.tmp 21) (.tmp 20) rfl (w.heap.size + 1) 1 _ _ #[.int .i64 x1, .bool x2, .int .u64 x3, .int .i64 x4] #[.bool false, .int .i64 x1, .bool x2, .int .u64 x3, .int .i64 x4, .int .i64 0, .bool false, .int .u64 0, .int .i64 0] X3 rfl rfl (by kernel_rfl) (by simp) (by simp [Value.oneCell']) rfl ?_; intro W4 X4 G4 hs4; have R4 := R3.far' G4 (by omega); have B4 := B3.grown G4 (by simp); have HG4 := grown_new HG3 G4 (by omega))
        | (refine wpList_storeM rfl 24 (.tmp 24) (.tmp 23) rfl (w.heap.size + 1) 5 _ _ #[.int .i64 y1, .bool y2, .int .u64 y3, .int .i64 y4] #[.bool false, .int .i64 x1, .bool x2, .int .u64 x3, .int .i64 x4, .int .i64 y1, .bool y2, .int .u64 y3, .int .i64 y4] X5 rfl rfl (by kernel_rfl) (by simp) (by simp [Value.oneCell']) rfl ?_; intro W6 X6 G6 hs6; have R6 := R5.far' G6 (by omega); have B6 := B5.grown G6 (by simp); have HG6 := grown_new HG5 G6 (by omega)))
      replace B6 := B6.drew
      replace X6 := X6.drew
      have R6' : Rd W6.drew B p r2 _ := R6
      clear R6
      replace HG6 := grown_drew HG6
      refine start_ (n := 6) (S := fun w' => w'.cell? ⟨w.heap.size + 1, 0, none⟩ = some (.bool false) ∧ w'.cell? ⟨w.heap.size + 1, 1, none⟩ = some (.int .i64 x1) ∧ w'.cell? ⟨w.heap.size + 1, 2, none⟩ = some (.bool x2) ∧ w'.cell? ⟨w.heap.size + 1, 3, none⟩ = some (.int .u64 x3) ∧ w'.cell? ⟨w.heap.size + 1, 4, none⟩ = some (.int .i64 x4) ∧ w'.cell? ⟨w.heap.size + 1, 5, none⟩ = some (.int .i64 y1) ∧ w'.cell? ⟨w.heap.size + 1, 6, none⟩ = some (.bool y2) ∧ w'.cell? ⟨w.heap.size + 1, 7, none⟩ = some (.int .u64 y3) ∧ w'.cell? ⟨w.heap.size + 1, 8, none⟩ = some (.int .i64 y4)) (ds := []) #[false, false, false, false, false, false] (by kernel_rfl) rfl rfl ⟨X6.cell 0, X6.cell 1, X6.cell 2, X6.cell 3, X6.cell 4, X6.cell 5, X6.cell 6, X6.cell 7, X6.cell 8⟩ (fun hHeld => ?_)
      generalize W6.drew = W7 at B6 X6 R6' HG6 hHeld ⊢
      refine pure_ (i := 0) (N := some 25) (v := ?_) (a' := ?_) #[true, false, false, false, false, false] rfl rfl (by kernel_rfl) (fun _ _ _ h => h) (Or.inl ⟨by rfl, ?_⟩) ?_ ?_
      rotate_left
      · intro w'
        go_simp
        with_reducible rfl
      rotate_left
      · simp only [Act.put, List.setIfInBounds_toArray, List.set_cons_zero, List.set_cons_succ]
        rfl
      refine pure_ (i := 1) (N := some 26) (v := ?_) (a' := ?_) #[true, true, false, false, false, false] rfl rfl (by kernel_rfl) (fun _ _ _ h => h) (Or.inl ⟨by rfl, ?_⟩) ?_ ?_
      rotate_left
      · intro w'
        go_simp
        with_reducible rfl
      rotate_left
      · simp only [Act.put, List.setIfInBounds_toArray, List.set_cons_zero, List.set_cons_succ]
        rfl
      refine pure_ (i := 2) (N := some 27) (v := ?_) (a' := ?_) #[true, true, true, false, false, false] rfl rfl (by kernel_rfl) (fun _ _ _ h => h) (Or.inl ⟨by rfl, ?_⟩) ?_ ?_
      rotate_left
      · intro w'
        go_simp
        with_reducible rfl
      rotate_left
      · simp only [Act.put, List.setIfInBounds_toArray, List.set_cons_zero, List.set_cons_succ]
        rfl
      refine take_ (i := 3) (N := some 28) (v := ?_) (a' := ?_) #[true, true, true, true, false, false] rfl rfl (by kernel_rfl) (fun _ _ _ h => h) (Or.inl ⟨by rfl, ?_⟩) hHeld ?_ ?_
      rotate_left
      · rintro w' ⟨s0_, s1_, s2_, s3_, s4_, s5_, s6_, s7_, s8_⟩
        go_simp
        with_reducible rfl
      rotate_left
      · simp only [Act.put, List.setIfInBounds_toArray, List.set_cons_zero, List.set_cons_succ]
        rfl
      refine one_ (i := 4) (N := some 29) #[true, true, true, true, true, false] rfl rfl (by kernel_rfl) (by decide) (fun K hK => ?_)
      refine goes_ Try.func15 (by kernel_rfl) rfl #[.agg #[.bool false, .int .i64 x1, .bool x2, .int .u64 x3, .int .i64 x4, .int .i64 y1, .bool y2, .int .u64 y3, .int .i64 y4]] (by rfl) rfl rfl (by simp only [List.map_toArray, List.map_cons, List.map_nil] <;> rfl) ?_
      with_reducible refine (HM.out W7).mono ?_
      rintro e w8 ⟨rfl, hb⟩
      refine ⟨_, rfl, ?_⟩
      have B8 := B6.call hb
      have X8 := X6.call hb
      have R8 := R6'.below hb
      have HG8 := HG6.trans (Below.grownBy hb (some p))
      refine hK.out _ _ ⟨X8.cell 0, X8.cell 1, X8.cell 2, X8.cell 3, X8.cell 4, X8.cell 5, X8.cell 6, X8.cell 7, X8.cell 8⟩ (fun hHeld => ?_)
      clear hK K hb
      refine norm_ (a' := ?_) ?_ ?_
      rotate_left
      · show Act.put _ (some 29) _ = _
        simp only [Act.put, List.setIfInBounds_toArray, List.set_cons_zero, List.set_cons_succ]
        rfl
      refine one_ (i := 5) (N := some 30) #[true, true, true, true, true, true] rfl rfl (by kernel_rfl) (by decide) (fun K hK => ?_)
      refine goes_ Try.func110 (by kernel_rfl) rfl #[.pointer (some ⟨p, 0, none⟩), .bool mm] (by rfl) rfl rfl (by simp only [List.map_toArray, List.map_cons, List.map_nil] <;> rfl) ?_
      with_reducible refine (check_calls B p _ _ mm _ R8).mono ?_
      rintro e w9 ⟨⟨v9, rfl⟩, R9, hb⟩
      refine ⟨_, rfl, ?_⟩
      have B9 := B8.grown hb (by simp; omega)
      have X9 := X8.grown hb (by simp; omega)
      have HG9 := HG8.trans hb
      refine hK.out _ _ ⟨X9.cell 0, X9.cell 1, X9.cell 2, X9.cell 3, X9.cell 4, X9.cell 5, X9.cell 6, X9.cell 7, X9.cell 8⟩ (fun hHeld => ?_)
      clear hK K hb
      refine norm_ (a' := ?_) ?_ ?_
      rotate_left
      · show Act.put _ (some 30) _ = _
        simp only [Act.put, List.setIfInBounds_toArray, List.set_cons_zero, List.set_cons_succ]
        rfl
      refine done_ (by kernel_rfl) ?_
      go_wp2_with (first
        | (refine wpList_load_row rfl 26 (.tmp 3) rfl (w.heap.size + 1) rfl 26 _ (0, 0) _ X9 Try.underlying26 rfl (by kernel_rfl) ?_)
        | (refine wpList_storeG rfl 26 (.tmp 2) (.tmp 31) rfl w.heap.size _ #[.bool false, .int .i64 x1, .bool x2, .int .u64 x3, .int .i64 x4, .int .i64 y1, .bool y2, .int .u64 y3, .int .i64 y4] B9 rfl rfl (by kernel_rfl) rfl (by simp [Value.oneCell']) ?_; intro WA BA GA hsA))
      refine bodyPost_ret (results_cell_row rfl _ _ w.heap.size 26 _ (0, 0) _ rfl BA Try.underlying26 rfl (by kernel_rfl)) rfl ⟨rfl, ?_, grown_new HG9 GA (Nat.le_refl _)⟩
      have RA := R9.far' GA hpl
      simpa [Bool.or_assoc, h1] using RA
end Go.Proofs.Ytakajahogjeiaab.Wk
