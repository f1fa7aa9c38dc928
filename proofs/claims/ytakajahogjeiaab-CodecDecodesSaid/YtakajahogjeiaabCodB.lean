/- Walks: the writer of package codec: num, iv. -/
import Derived.Test.YtakajahogjeiaabCodA
import Derived.Test.YtakajahogjeiaabIvA
namespace Go.Proofs.Ytakajahogjeiaab.Wk
open Go.RowKit Go.Proofs.Pl Go.Proofs.YtakajahogjeiaabW.PrintLast
set_option linter.unusedSimpArgs false
set_option linter.unusedVariables false

def signB (m : Int) (b : Bool) : Int := if b = true then (m + 1) % 256 else m
def encE (e : Int) : Int := IntKind.u64.wrap (wrap64 (e + 1048576))
/-- a number's bytes -/
def encN (x : Num) : List Int := if x.k = 0 then [0] else if x.k = 2 then [signB 1 x.n] else [signB 3 x.n] ++ wordB x.m 8 8 ++ wordB (encE x.e) 4 4
theorem encN_length (x : Num) : (encN x).length ≤ 13 := by
  unfold encN
  (repeat' split) <;> simp [wordB_length]

theorem word8_calls (base p : Nat) (xs : List Int) (n : Int) (w : World) (hW : Wr w base p xs) (hb : base ≤ w.heap.size) (hl : xs.length ≤ 900000) :
    Calls Try.prog 108 #[.pointer (some ⟨p, 0, none⟩), .int .u64 n, .int .i64 8] w fun e w' => (∃ v, e = .returned v) ∧ Wr w' base p (xs ++ wordB n 8 8) ∧ Keep p w w' ∧ Below base w w' := word_calls base p xs n 8 (by omega) w hW hb hl
theorem word4_calls (base p : Nat) (xs : List Int) (n : Int) (w : World) (hW : Wr w base p xs) (hb : base ≤ w.heap.size) (hl : xs.length ≤ 900000) :
    Calls Try.prog 108 #[.pointer (some ⟨p, 0, none⟩), .int .u64 n, .int .i64 4] w fun e w' => (∃ v, e = .returned v) ∧ Wr w' base p (xs ++ wordB n 4 4) ∧ Keep p w w' ∧ Below base w w' := word_calls base p xs n 4 (by omega) w hW hb hl

set_option maxRecDepth 100000 in
set_option maxHeartbeats 4000000 in
theorem wnum_calls (base p : Nat) (xs : List Int) (a0 : Int) (a1 : Bool) (a2 a3 : Int) (w : World) (hW : Wr w base p xs) (hb : base ≤ w.heap.size) (hl : xs.length ≤ 800000) :
    Calls Try.prog 70 #[.pointer (some ⟨p, 0, none⟩), .agg #[.int .i64 a0, .bool a1, .int .u64 a2, .int .i64 a3]] w fun e w' => (∃ v, e = .returned v) ∧ Wr w' base p (xs ++ encN ⟨a0, a1, a2, a3⟩) ∧ Keep p w w' ∧ Below base w w' := by
  obtain ⟨hpb, v, hB, hO⟩ := hW
  have hpl := hB.lt
  have hne : p ≠ w.heap.size := by omega
  unfold encN
  dsimp only
  obtain ⟨z1, hz1⟩ : ∃ z, signB 1 a1 = z := ⟨_, rfl⟩
  obtain ⟨z3, hz3⟩ : ∃ z, signB 3 a1 = z := ⟨_, rfl⟩
  have HS1 := Lib.hid (fun W => sign_calls 1 a1 W)
  have HS3 := Lib.hid (fun W => sign_calls 3 a1 W)
  rw [show (if a1 = true then ((1 : Int) + 1) % 256 else 1) = z1 from hz1] at HS1
  rw [show (if a1 = true then ((3 : Int) + 1) % 256 else 3) = z3 from hz3] at HS3
  rw [hz1, hz3]
  clear hz1 hz3
  by_cases h0 : a0 = 0
  · subst h0
    rw [if_pos rfl]
    have BX := Blk.new w 24 #[.int .i64 0, .bool a1, .int .u64 a2, .int .i64 a3]
    have HB1 := hB.alloc (.cells #[.int .i64 0, .bool a1, .int .u64 a2, .int .i64 a3] 24)
    obtain ⟨q0, f0⟩ := HB1.c1b
    go_enter Try.func70, Try.ntmps70
    go_wp2_with (at_builtin; refine wpList_appB rfl (.tmp 34) (.tmp 35) rfl base v xs rfl (World.ownsRow.alloc (World.ownsRow.alloc hO _) _) (w.heap.size + 1) 5 0 1 rfl (Blk.new1 w _ _ _) (by omega) (by simp; omega) ?_; intro v3 W3 O3 hg3; obtain ⟨A3, n3, c3, rfl⟩ := O3.form; have HB3 := (HB1.alloc _).grown hg3 (hO.ne hB (by decide)); have HK3 := (((Keep.refl p w).alloc (.cells #[.int .i64 0, .bool a1, .int .u64 a2, .int .i64 a3] 24)).alloc (.cells #[.int .u8 0] 5)).app (World.ownsRow.alloc (World.ownsRow.alloc hO _) _) hg3; have HL3 := (((Below.refl base w).alloc hb (.cells #[.int .i64 0, .bool a1, .int .u64 a2, .int .i64 a3] 24)).alloc (by simp; omega) (.cells #[.int .u8 0] 5)).grown hg3 (by simp; omega) (fun k hk => (hO.lt k hk).1); obtain ⟨q3, f3⟩ := HB3.c1b)
    go_end0
    exact ⟨⟨_, rfl⟩, Wr.stored hpb HB3 O3, HK3.store 0 _, HL3.setCell (p := ⟨p, 0, none⟩) hpb _⟩
  · rw [if_neg h0]
    by_cases h2 : a0 = 2
    · rw [if_pos h2]
      subst h2
      clear h0
      go_enter Try.func70, Try.ntmps70
      go_wp2_with fail
      have HBp := (hB.alloc (.cells #[.int .i64 2, .bool a1, .int .u64 a2, .int .i64 a3] 24)).drew
      have BX := (Blk.new w 24 #[.int .i64 2, .bool a1, .int .u64 a2, .int .i64 a3]).drew
      have HO2 : OwnB (w.alloc (.cells #[.int .i64 2, .bool a1, .int .u64 a2, .int .i64 a3] 24)).drew base v xs := World.ownsRow.alloc hO _
      have HKp : Keep p w (w.alloc (.cells #[.int .i64 2, .bool a1, .int .u64 a2, .int .i64 a3] 24)).drew := (Keep.refl p w).alloc _
      have HL := ((Below.refl base w).alloc hb (.cells #[.int .i64 2, .bool a1, .int .u64 a2, .int .i64 a3] 24)).drew
      have hbs : base ≤ (w.alloc (.cells #[.int .i64 2, .bool a1, .int .u64 a2, .int .i64 a3] 24)).drew.heap.size := Nat.le_trans hb HL.size
      refine start_ (n := 13) (S := fun w' => w'.cell? ⟨p, 0, none⟩ = some v ∧ w'.cell? ⟨w.heap.size, 1, none⟩ = some (.bool a1)) (ds := [12]) #[false, false, false, false, false, false, false, false, false, false, false, false, false] (by kernel_rfl) rfl rfl ⟨HBp.cell 0, BX.cell 1⟩ (fun hHeld => ?_)
      generalize (w.alloc (.cells #[.int .i64 2, .bool a1, .int .u64 a2, .int .i64 a3] 24)).drew = W at HBp BX HO2 HKp HL hbs hHeld ⊢
      refine pure_ (i := 0) (N := some 41) (v := ?_) (a' := ?_) #[true, false, false, false, false, false, false, false, false, false, false, false, false] rfl rfl (by kernel_rfl) (fun _ _ _ h => h) (Or.inl ⟨by rfl, ?_⟩) ?_ ?_
      rotate_left
      · intro w'
        go_simp
        with_reducible rfl
      rotate_left
      · simp only [Act.put, List.setIfInBounds_toArray, List.set_cons_zero, List.set_cons_succ]
        rfl
      refine pure_ (i := 1) (N := some 42) (v := ?_) (a' := ?_) #[true, true, false, false, false, false, false, false, false, false, false, false, false] rfl rfl (by kernel_rfl) (fun _ _ _ h => h) (Or.inl ⟨by rfl, ?_⟩) ?_ ?_
      rotate_left
      · intro w'
        go_simp
        with_reducible rfl
      rotate_left
      · simp only [Act.put, List.setIfInBounds_toArray, List.set_cons_zero, List.set_cons_succ]
        rfl
      refine pure_ (i := 2) (N := some 43) (v := ?_) (a' := ?_) #[true, true, true, false, false, false, false, false, false, false, false, false, false] rfl rfl (by kernel_rfl) (fun _ _ _ h => h) (Or.inl ⟨by rfl, ?_⟩) ?_ ?_
      rotate_left
      · intro w'
        go_simp
        with_reducible rfl
      rotate_left
      · simp only [Act.put, List.setIfInBounds_toArray, List.set_cons_zero, List.set_cons_succ]
        rfl
      refine pure_ (i := 3) (N := some 44) (v := ?_) (a' := ?_) #[true, true, true, true, false, false, false, false, false, false, false, false, false] rfl rfl (by kernel_rfl) (fun _ _ _ h => h) (Or.inl ⟨by rfl, ?_⟩) ?_ ?_
      rotate_left
      · intro w'
        go_simp
        with_reducible rfl
      rotate_left
      · simp only [Act.put, List.setIfInBounds_toArray, List.set_cons_zero, List.set_cons_succ]
        rfl
      refine take_ (i := 4) (N := some 45) (v := ?_) (a' := ?_) #[true, true, true, true, true, false, false, false, false, false, false, false, false] rfl rfl (by kernel_rfl) (fun _ _ _ h => h) (Or.inl ⟨by rfl, ?_⟩) hHeld ?_ ?_
      rotate_left
      · rintro w' ⟨s0_, s1_⟩
        go_simp
        with_reducible rfl
      rotate_left
      · simp only [Act.put, List.setIfInBounds_toArray, List.set_cons_zero, List.set_cons_succ]
        rfl
      refine pure_ (i := 5) (N := some 46) (v := ?_) (a' := ?_) #[true, true, true, true, true, true, false, false, false, false, false, false, false] rfl rfl (by kernel_rfl) (fun _ _ _ h => h) (Or.inl ⟨by rfl, ?_⟩) ?_ ?_
      rotate_left
      · intro w'
        go_simp
        with_reducible rfl
      rotate_left
      · simp only [Act.put, List.setIfInBounds_toArray, List.set_cons_zero, List.set_cons_succ]
        rfl
      refine take_ (i := 6) (N := some 47) (v := ?_) (a' := ?_) #[true, true, true, true, true, true, true, false, false, false, false, false, false] rfl rfl (by kernel_rfl) (fun _ _ _ h => h) (Or.inl ⟨by rfl, ?_⟩) hHeld ?_ ?_
      rotate_left
      · rintro w' ⟨s0_, s1_⟩
        go_simp
        with_reducible rfl
      rotate_left
      · simp only [Act.put, List.setIfInBounds_toArray, List.set_cons_zero, List.set_cons_succ]
        rfl
      refine one_ (i := 7) (N := some 48) #[true, true, true, true, true, true, true, true, false, false, false, false, false] rfl rfl (by kernel_rfl) (by decide) (fun K hK => ?_)
      refine goes_ Try.func107 (by kernel_rfl) rfl #[.int .u8 1, .bool a1] (by rfl) rfl rfl (by simp only [List.map_toArray, List.map_cons, List.map_nil] <;> rfl) ?_
      with_reducible refine (HS1.out W).mono ?_
      rintro e w2 ⟨rfl, hb⟩
      refine ⟨_, rfl, ?_⟩
      have HBp := HBp.call hb
      have BX := BX.call hb
      have HO2 := HO2.same (w' := w2) fun g hg => hb.block g (HO2.lt g hg).2
      have HKp := HKp.below hb
      have HL := HL.trans (hb.mono hbs)
      have hbs := Nat.le_trans hbs hb.size
      refine hK.out _ _ ⟨HBp.cell 0, BX.cell 1⟩ (fun hHeld => ?_)
      clear hK K hb
      refine norm_ (a' := ?_) ?_ ?_
      rotate_left
      · show Act.put _ (some 48) _ = _
        simp only [Act.put, List.setIfInBounds_toArray, List.set_cons_zero, List.set_cons_succ]
        rfl
      refine one_ (i := 8) (N := some 49) #[true, true, true, true, true, true, true, true, true, false, false, false, false] rfl rfl (by kernel_rfl) (by decide) (fun K hK => ?_)
      refine value_ (v := ?_) (w1 := ?_) (by rfl) rfl ?_ ?_
      rotate_left 2
      · go_simp
        first | rfl | (constructor <;> rfl)
      have BL := Blk.new w2 5 #[.int .u8 z1]
      have HBp := HBp.alloc (.cells #[.int .u8 z1] 5)
      have BX := BX.alloc (.cells #[.int .u8 z1] 5)
      have HO2 : OwnB (w2.alloc (.cells #[.int .u8 z1] 5)) base v xs := World.ownsRow.alloc HO2 _
      have HKp := HKp.alloc (.cells #[.int .u8 z1] 5)
      have HL := HL.alloc hbs (.cells #[.int .u8 z1] 5)
      have hbs : base ≤ (w2.alloc (.cells #[.int .u8 z1] 5)).heap.size := Nat.le_trans hbs (by simp)
      refine hK.out _ _ ⟨HBp.cell 0, BX.cell 1⟩ (fun hHeld => ?_)
      clear hK K
      refine norm_ (a' := ?_) ?_ ?_
      rotate_left
      · show Act.put _ (some 49) _ = _
        simp only [Act.put, List.setIfInBounds_toArray, List.set_cons_zero, List.set_cons_succ]
        rfl
      generalize hH : w2.heap.size = H at BL ⊢
      clear hH
      generalize w2.alloc (.cells #[.int .u8 z1] 5) = W2 at BL HBp BX HO2 HKp HL hbs hHeld ⊢
      refine one_ (i := 9) (N := some 50) #[true, true, true, true, true, true, true, true, true, true, false, false, false] rfl rfl (by kernel_rfl) (by decide) (fun K hK => ?_)
      refine step_appB (by rfl) (.tmp 45) (.tmp 49) (by rfl) base v xs (by rfl) HO2 H 5 z1 1 (by rfl) BL (by omega) hbs ?_
      intro v3 W3 O3 hg3
      obtain ⟨A3, n3, c3, rfl⟩ := O3.form
      have HBp := HBp.grown hg3 (HO2.ne HBp (by decide))
      have BX := BX.grown hg3 (HO2.ne BX (by decide))
      have HKp := HKp.app HO2 hg3
      have HL := HL.grown hg3 hbs (fun k hk => (HO2.lt k hk).1)
      refine hK.out _ _ ⟨HBp.cell 0, BX.cell 1⟩ (fun hHeld => ?_)
      clear hK K
      refine norm_ (a' := ?_) ?_ ?_
      rotate_left
      · show Act.put _ (some 50) _ = _
        simp only [Act.put, List.setIfInBounds_toArray, List.set_cons_zero, List.set_cons_succ]
        rfl
      refine pure_ (i := 10) (N := some 51) (v := ?_) (a' := ?_) #[true, true, true, true, true, true, true, true, true, true, true, false, false] rfl rfl (by kernel_rfl) (fun _ _ _ h => h) (Or.inl ⟨by rfl, ?_⟩) ?_ ?_
      rotate_left
      · intro w'
        go_simp
        with_reducible rfl
      rotate_left
      · simp only [Act.put, List.setIfInBounds_toArray, List.set_cons_zero, List.set_cons_succ]
        rfl
      refine pure_ (i := 11) (N := some 52) (v := ?_) (a' := ?_) #[true, true, true, true, true, true, true, true, true, true, true, true, false] rfl rfl (by kernel_rfl) (fun _ _ _ h => h) (Or.inl ⟨by rfl, ?_⟩) ?_ ?_
      rotate_left
      · intro w'
        go_simp
        with_reducible rfl
      rotate_left
      · simp only [Act.put, List.setIfInBounds_toArray, List.set_cons_zero, List.set_cons_succ]
        rfl
      obtain ⟨q3, f3⟩ := HBp.c1b
      refine last_ (i := 12) (N := none) #[true, true, true, true, true, true, true, true, true, true, true, true, true] rfl rfl (by kernel_rfl) (by decide) (fun K hK => ?_)
      refine skip_ (w1 := ?_) (by rfl) rfl ?_ ?_
      rotate_left
      · go_simp
        rfl
      refine hK.out _ _ ?_
      clear hK K
      have HW4 := Wr.stored hpb HBp O3
      have BX4 := BX.far (p := ⟨p, 0, none⟩) (fun e => hne e.symm) (.slice A3 n3 c3)
      have HK4 := HKp.store 0 (.slice A3 n3 c3)
      have HL4 := HL.setCell (p := ⟨p, 0, none⟩) hpb (.slice A3 n3 c3)
      have hb4 : base ≤ (W3.setCell ⟨p, 0, none⟩ (.slice A3 n3 c3)).heap.size := Nat.le_trans hb HL4.size
      clear q3 f3 hHeld
      refine done_ (by kernel_rfl) ?_
      go_wp2
      go_end0
      exact ⟨⟨_, rfl⟩, HW4, HK4, HL4⟩
    · rw [if_neg h2]
      have k0 : (a0 == 0) = false := beq_eq_false_iff_ne.2 h0
      have k2 : (a0 == 2) = false := beq_eq_false_iff_ne.2 h2
      clear h0 h2
      go_enter Try.func70, Try.ntmps70
      go_wp2_with fail
      have HBp := (hB.alloc (.cells #[.int .i64 a0, .bool a1, .int .u64 a2, .int .i64 a3] 24)).drew
      have BX := (Blk.new w 24 #[.int .i64 a0, .bool a1, .int .u64 a2, .int .i64 a3]).drew
      have HO2 : OwnB (w.alloc (.cells #[.int .i64 a0, .bool a1, .int .u64 a2, .int .i64 a3] 24)).drew base v xs := World.ownsRow.alloc hO _
      have HKp : Keep p w (w.alloc (.cells #[.int .i64 a0, .bool a1, .int .u64 a2, .int .i64 a3] 24)).drew := (Keep.refl p w).alloc _
      have HL := ((Below.refl base w).alloc hb (.cells #[.int .i64 a0, .bool a1, .int .u64 a2, .int .i64 a3] 24)).drew
      have hbs : base ≤ (w.alloc (.cells #[.int .i64 a0, .bool a1, .int .u64 a2, .int .i64 a3] 24)).drew.heap.size := Nat.le_trans hb HL.size
      refine start_ (n := 13) (S := fun w' => w'.cell? ⟨p, 0, none⟩ = some v ∧ w'.cell? ⟨w.heap.size, 1, none⟩ = some (.bool a1)) (ds := [12]) #[false, false, false, false, false, false, false, false, false, false, false, false, false] (by kernel_rfl) rfl rfl ⟨HBp.cell 0, BX.cell 1⟩ (fun hHeld => ?_)
      generalize (w.alloc (.cells #[.int .i64 a0, .bool a1, .int .u64 a2, .int .i64 a3] 24)).drew = W at HBp BX HO2 HKp HL hbs hHeld ⊢
      refine pure_ (i := 0) (N := some 6) (v := ?_) (a' := ?_) #[true, false, false, false, false, false, false, false, false, false, false, false, false] rfl rfl (by kernel_rfl) (fun _ _ _ h => h) (Or.inl ⟨by rfl, ?_⟩) ?_ ?_
      rotate_left
      · intro w'
        go_simp
        with_reducible rfl
      rotate_left
      · simp only [Act.put, List.setIfInBounds_toArray, List.set_cons_zero, List.set_cons_succ]
        rfl
      refine pure_ (i := 1) (N := some 7) (v := ?_) (a' := ?_) #[true, true, false, false, false, false, false, false, false, false, false, false, false] rfl rfl (by kernel_rfl) (fun _ _ _ h => h) (Or.inl ⟨by rfl, ?_⟩) ?_ ?_
      rotate_left
      · intro w'
        go_simp
        with_reducible rfl
      rotate_left
      · simp only [Act.put, List.setIfInBounds_toArray, List.set_cons_zero, List.set_cons_succ]
        rfl
      refine pure_ (i := 2) (N := some 8) (v := ?_) (a' := ?_) #[true, true, true, false, false, false, false, false, false, false, false, false, false] rfl rfl (by kernel_rfl) (fun _ _ _ h => h) (Or.inl ⟨by rfl, ?_⟩) ?_ ?_
      rotate_left
      · intro w'
        go_simp
        with_reducible rfl
      rotate_left
      · simp only [Act.put, List.setIfInBounds_toArray, List.set_cons_zero, List.set_cons_succ]
        rfl
      refine pure_ (i := 3) (N := some 9) (v := ?_) (a' := ?_) #[true, true, true, true, false, false, false, false, false, false, false, false, false] rfl rfl (by kernel_rfl) (fun _ _ _ h => h) (Or.inl ⟨by rfl, ?_⟩) ?_ ?_
      rotate_left
      · intro w'
        go_simp
        with_reducible rfl
      rotate_left
      · simp only [Act.put, List.setIfInBounds_toArray, List.set_cons_zero, List.set_cons_succ]
        rfl
      refine take_ (i := 4) (N := some 10) (v := ?_) (a' := ?_) #[true, true, true, true, true, false, false, false, false, false, false, false, false] rfl rfl (by kernel_rfl) (fun _ _ _ h => h) (Or.inl ⟨by rfl, ?_⟩) hHeld ?_ ?_
      rotate_left
      · rintro w' ⟨s0_, s1_⟩
        go_simp
        with_reducible rfl
      rotate_left
      · simp only [Act.put, List.setIfInBounds_toArray, List.set_cons_zero, List.set_cons_succ]
        rfl
      refine pure_ (i := 5) (N := some 11) (v := ?_) (a' := ?_) #[true, true, true, true, true, true, false, false, false, false, false, false, false] rfl rfl (by kernel_rfl) (fun _ _ _ h => h) (Or.inl ⟨by rfl, ?_⟩) ?_ ?_
      rotate_left
      · intro w'
        go_simp
        with_reducible rfl
      rotate_left
      · simp only [Act.put, List.setIfInBounds_toArray, List.set_cons_zero, List.set_cons_succ]
        rfl
      refine take_ (i := 6) (N := some 12) (v := ?_) (a' := ?_) #[true, true, true, true, true, true, true, false, false, false, false, false, false] rfl rfl (by kernel_rfl) (fun _ _ _ h => h) (Or.inl ⟨by rfl, ?_⟩) hHeld ?_ ?_
      rotate_left
      · rintro w' ⟨s0_, s1_⟩
        go_simp
        with_reducible rfl
      rotate_left
      · simp only [Act.put, List.setIfInBounds_toArray, List.set_cons_zero, List.set_cons_succ]
        rfl
      refine one_ (i := 7) (N := some 13) #[true, true, true, true, true, true, true, true, false, false, false, false, false] rfl rfl (by kernel_rfl) (by decide) (fun K hK => ?_)
      refine goes_ Try.func107 (by kernel_rfl) rfl #[.int .u8 3, .bool a1] (by rfl) rfl rfl (by simp only [List.map_toArray, List.map_cons, List.map_nil] <;> rfl) ?_
      with_reducible refine (HS3.out W).mono ?_
      rintro e w2 ⟨rfl, hb⟩
      refine ⟨_, rfl, ?_⟩
      have HBp := HBp.call hb
      have BX := BX.call hb
      have HO2 := HO2.same (w' := w2) fun g hg => hb.block g (HO2.lt g hg).2
      have HKp := HKp.below hb
      have HL := HL.trans (hb.mono hbs)
      have hbs := Nat.le_trans hbs hb.size
      refine hK.out _ _ ⟨HBp.cell 0, BX.cell 1⟩ (fun hHeld => ?_)
      clear hK K hb
      refine norm_ (a' := ?_) ?_ ?_
      rotate_left
      · show Act.put _ (some 13) _ = _
        simp only [Act.put, List.setIfInBounds_toArray, List.set_cons_zero, List.set_cons_succ]
        rfl
      refine one_ (i := 8) (N := some 14) #[true, true, true, true, true, true, true, true, true, false, false, false, false] rfl rfl (by kernel_rfl) (by decide) (fun K hK => ?_)
      refine value_ (v := ?_) (w1 := ?_) (by rfl) rfl ?_ ?_
      rotate_left 2
      · go_simp
        first | rfl | (constructor <;> rfl)
      have BL := Blk.new w2 5 #[.int .u8 z3]
      have HBp := HBp.alloc (.cells #[.int .u8 z3] 5)
      have BX := BX.alloc (.cells #[.int .u8 z3] 5)
      have HO2 : OwnB (w2.alloc (.cells #[.int .u8 z3] 5)) base v xs := World.ownsRow.alloc HO2 _
      have HKp := HKp.alloc (.cells #[.int .u8 z3] 5)
      have HL := HL.alloc hbs (.cells #[.int .u8 z3] 5)
      have hbs : base ≤ (w2.alloc (.cells #[.int .u8 z3] 5)).heap.size := Nat.le_trans hbs (by simp)
      refine hK.out _ _ ⟨HBp.cell 0, BX.cell 1⟩ (fun hHeld => ?_)
      clear hK K
      refine norm_ (a' := ?_) ?_ ?_
      rotate_left
      · show Act.put _ (some 14) _ = _
        simp only [Act.put, List.setIfInBounds_toArray, List.set_cons_zero, List.set_cons_succ]
        rfl
      generalize hH : w2.heap.size = H at BL ⊢
      clear hH
      generalize w2.alloc (.cells #[.int .u8 z3] 5) = W2 at BL HBp BX HO2 HKp HL hbs hHeld ⊢
      refine one_ (i := 9) (N := some 15) #[true, true, true, true, true, true, true, true, true, true, false, false, false] rfl rfl (by kernel_rfl) (by decide) (fun K hK => ?_)
      refine step_appB (by rfl) (.tmp 10) (.tmp 14) (by rfl) base v xs (by rfl) HO2 H 5 z3 1 (by rfl) BL (by omega) hbs ?_
      intro v3 W3 O3 hg3
      obtain ⟨A3, n3, c3, rfl⟩ := O3.form
      have HBp := HBp.grown hg3 (HO2.ne HBp (by decide))
      have BX := BX.grown hg3 (HO2.ne BX (by decide))
      have HKp := HKp.app HO2 hg3
      have HL := HL.grown hg3 hbs (fun k hk => (HO2.lt k hk).1)
      refine hK.out _ _ ⟨HBp.cell 0, BX.cell 1⟩ (fun hHeld => ?_)
      clear hK K
      refine norm_ (a' := ?_) ?_ ?_
      rotate_left
      · show Act.put _ (some 15) _ = _
        simp only [Act.put, List.setIfInBounds_toArray, List.set_cons_zero, List.set_cons_succ]
        rfl
      refine pure_ (i := 10) (N := some 16) (v := ?_) (a' := ?_) #[true, true, true, true, true, true, true, true, true, true, true, false, false] rfl rfl (by kernel_rfl) (fun _ _ _ h => h) (Or.inl ⟨by rfl, ?_⟩) ?_ ?_
      rotate_left
      · intro w'
        go_simp
        with_reducible rfl
      rotate_left
      · simp only [Act.put, List.setIfInBounds_toArray, List.set_cons_zero, List.set_cons_succ]
        rfl
      refine pure_ (i := 11) (N := some 17) (v := ?_) (a' := ?_) #[true, true, true, true, true, true, true, true, true, true, true, true, false] rfl rfl (by kernel_rfl) (fun _ _ _ h => h) (Or.inl ⟨by rfl, ?_⟩) ?_ ?_
      rotate_left
      · intro w'
        go_simp
        with_reducible rfl
      rotate_left
      · simp only [Act.put, List.setIfInBounds_toArray, List.set_cons_zero, List.set_cons_succ]
        rfl
      obtain ⟨q3, f3⟩ := HBp.c1b
      refine last_ (i := 12) (N := none) #[true, true, true, true, true, true, true, true, true, true, true, true, true] rfl rfl (by kernel_rfl) (by decide) (fun K hK => ?_)
      refine skip_ (w1 := ?_) (by rfl) rfl ?_ ?_
      rotate_left
      · go_simp
        rfl
      refine hK.out _ _ ?_
      clear hK K
      have HW4 := Wr.stored hpb HBp O3
      have BX4 := BX.far (p := ⟨p, 0, none⟩) (fun e => hne e.symm) (.slice A3 n3 c3)
      have HK4 := HKp.store 0 (.slice A3 n3 c3)
      have HL4 := HL.setCell (p := ⟨p, 0, none⟩) hpb (.slice A3 n3 c3)
      have hb4 : base ≤ (W3.setCell ⟨p, 0, none⟩ (.slice A3 n3 c3)).heap.size := Nat.le_trans hb HL4.size
      clear q3 f3 hHeld
      refine done_ (by kernel_rfl) ?_
      obtain ⟨⟨q0, q1, q2, q3⟩, ⟨f0, f1, f2, f3⟩⟩ := BX4.c4
      go_wp2_with (go_at_call 108; first
        | ((with_reducible refine (word8_calls base p (xs ++ [z3]) a2 _ HW4 hb4 (by simp; omega)).mono ?_); rintro e w5 ⟨⟨v5, rfl⟩, HW5, HK5, HL5⟩; have BX5 := HK5 _ _ _ (fun e => hne e.symm) (by decide) BX4; have HK6 := HK4.trans HK5; have HL6 := HL4.trans HL5; have hb5 := Nat.le_trans hb4 HL5.size; clear q0 q1 q2 q3 f0 f1 f2 f3; obtain ⟨⟨q0, q1, q2, q3⟩, ⟨f0, f1, f2, f3⟩⟩ := BX5.c4)
        | ((with_reducible refine (word4_calls base p (xs ++ [z3] ++ wordB a2 8 8) _ _ HW5 hb5 (by simp [wordB_length]; omega)).mono ?_); rintro e w6 ⟨⟨v6, rfl⟩, HW6, HK7, HL7⟩; have HK8 := HK6.trans HK7; have HL8 := HL6.trans HL7))
      go_end0
      refine ⟨⟨_, rfl⟩, ?_, HK8, HL8⟩
      simp only [List.append_assoc, List.cons_append, List.nil_append] at HW6 ⊢
      exact HW6

/-- an interval's bytes -/
def encI (x : Iv) : List Int := if x.emp = true then [0] else [1] ++ encN x.lo ++ encN x.hi
theorem encI_length (x : Iv) : (encI x).length ≤ 27 := by
  unfold encI
  have h1 := encN_length x.lo
  have h2 := encN_length x.hi
  split
  · simp
  · simp; omega
def encIs (l : List Iv) : List Int := l.flatMap encI
theorem encIs_snoc (l : List Iv) (x : Iv) : encIs (l ++ [x]) = encIs l ++ encI x := by simp [encIs]
theorem encIs_length (l : List Iv) : (encIs l).length ≤ 27 * l.length := by
  induction l with
  | nil => simp [encIs]
  | cons a l ih =>
    have := encI_length a
    simp only [encIs, List.flatMap_cons, List.length_append, List.length_cons] at ih ⊢
    omega

set_option maxRecDepth 100000 in
set_option maxHeartbeats 4000000 in
theorem wiv_calls (base p : Nat) (xs : List Int) (g q c : Nat) (l : List Iv) (hq : l.length = q) (hq3 : q ≤ 100) (cs : Array Value) (w : World) (hW : Wr w base p xs) (hb : base ≤ w.heap.size) (hl : xs.length ≤ 700000)
    (hG : Blk w g 26 cs) (hgp : g ≠ p) (hcs : ∀ (i : Nat) (x : Iv), l[i]? = some x → cs[i * 9]? = some (.bool x.emp) ∧ cs[i * 9 + 1]? = some (.int .i64 x.lo.k) ∧ cs[i * 9 + 2]? = some (.bool x.lo.n) ∧ cs[i * 9 + 3]? = some (.int .u64 x.lo.m) ∧ cs[i * 9 + 4]? = some (.int .i64 x.lo.e) ∧ cs[i * 9 + 5]? = some (.int .i64 x.hi.k) ∧ cs[i * 9 + 6]? = some (.bool x.hi.n) ∧ cs[i * 9 + 7]? = some (.int .u64 x.hi.m) ∧ cs[i * 9 + 8]? = some (.int .i64 x.hi.e)) :
    Calls Try.prog 71 #[.pointer (some ⟨p, 0, none⟩), .slice (some ⟨g, 0, none⟩) q c] w fun e w' => (∃ v, e = .returned v) ∧ Wr w' base p (xs ++ encIs l) ∧ Keep p w w' ∧ Below base w w' := by
  have hpb := hW.1
  go_enter Try.func71, Try.ntmps71
  go_wp2
  go_loopw [5, 8] (fun _ i wr => ∃ k : Nat, k ≤ q ∧ i = .int .i64 k ∧ Wr wr base p (xs ++ encIs (l.take k)) ∧ Keep p w wr ∧ Below base w wr) (fun _ i _ => q - (intOf i).toNat)
  case atStart => exact ⟨0, Nat.zero_le _, rfl, by simpa [encIs] using hW, Keep.refl _ _, Below.refl _ _⟩
  case round =>
    obtain ⟨k, hk, rfl, HWr, hKp, hL⟩ := hrel
    have hbs : base ≤ wr.heap.size := Nat.le_trans hb hL.size
    by_cases hlt : k < q
    · have hx : l[k]? = some l[k] := List.getElem?_eq_getElem (by omega)
      have hGr := hKp g _ _ hgp (by decide) hG
      obtain ⟨c0, c1, c2, c3, c4, c5, c6, c7, c8⟩ := hcs k _ hx
      have e0 := (hGr.cell (k * 9)).trans c0
      have e1 := (hGr.cell (k * 9 + 1)).trans c1
      have e2 := (hGr.cell (k * 9 + 2)).trans c2
      have e3 := (hGr.cell (k * 9 + 3)).trans c3
      have e4 := (hGr.cell (k * 9 + 4)).trans c4
      have e5 := (hGr.cell (k * 9 + 5)).trans c5
      have e6 := (hGr.cell (k * 9 + 6)).trans c6
      have e7 := (hGr.cell (k * 9 + 7)).trans c7
      have e8 := (hGr.cell (k * 9 + 8)).trans c8
      have htk : l.take (k + 1) = l.take k ++ [l[k]] := by rw [List.take_add_one, hx]; rfl
      have hen := encIs_snoc (l.take k) l[k]
      rw [← htk] at hen
      have hlen := encIs_length (l.take k)
      have hlk : (l.take k).length = k := by rw [List.length_take]; omega
      generalize l[k] = x at e0 e1 e2 e3 e4 e5 e6 e7 e8 hen
      obtain ⟨x0, ⟨x1, x2, x3, x4⟩, ⟨x5, x6, x7, x8⟩⟩ := x
      dsimp only at e0 e1 e2 e3 e4 e5 e6 e7 e8
      have hxl : (xs ++ encIs (l.take k)).length ≤ 710000 := by rw [List.length_append]; omega
      have Hen := Lib.hid hen
      clear c0 c1 c2 c3 c4 c5 c6 c7 c8 hx htk hen hlen hlk hGr
      generalize encIs (l.take k) = L at HWr hxl Hen
      obtain ⟨_, v, hB, hO⟩ := HWr
      have hpl := hB.lt
      have hne : p ≠ wr.heap.size := by omega
      cases x0
      · have BX := Blk.new wr 26 #[.bool false, .int .i64 x1, .bool x2, .int .u64 x3, .int .i64 x4, .int .i64 x5, .bool x6, .int .u64 x7, .int .i64 x8]
        have HB1 := hB.alloc (.cells #[.bool false, .int .i64 x1, .bool x2, .int .u64 x3, .int .i64 x4, .int .i64 x5, .bool x6, .int .u64 x7, .int .i64 x8] 26)
        obtain ⟨q0, f0⟩ := HB1.c1b
        have HO1 : OwnB ((wr.alloc (.cells #[.bool false, .int .i64 x1, .bool x2, .int .u64 x3, .int .i64 x4, .int .i64 x5, .bool x6, .int .u64 x7, .int .i64 x8] 26)).alloc (.cells #[.int .u8 1] 5)) base v (xs ++ L) := World.ownsRow.alloc (World.ownsRow.alloc hO _) _
        have HKa := (hKp.alloc (.cells #[.bool false, .int .i64 x1, .bool x2, .int .u64 x3, .int .i64 x4, .int .i64 x5, .bool x6, .int .u64 x7, .int .i64 x8] 26)).alloc (.cells #[.int .u8 1] 5)
        have HLa := (hL.alloc hbs (.cells #[.bool false, .int .i64 x1, .bool x2, .int .u64 x3, .int .i64 x4, .int .i64 x5, .bool x6, .int .u64 x7, .int .i64 x8] 26)).alloc (by simp; omega) (.cells #[.int .u8 1] 5)
        have hba : base ≤ ((wr.alloc (.cells #[.bool false, .int .i64 x1, .bool x2, .int .u64 x3, .int .i64 x4, .int .i64 x5, .bool x6, .int .u64 x7, .int .i64 x8] 26)).alloc (.cells #[.int .u8 1] 5)).heap.size := by simp; omega
        have HN := Lib.hid (fun xs' W h1 h2 h3 => wnum_calls base p xs' x1 x2 x3 x4 W h1 h2 h3)
        have HM := Lib.hid (fun xs' W h1 h2 h3 => wnum_calls base p xs' x5 x6 x7 x8 W h1 h2 h3)
        have el := encN_length ⟨x1, x2, x3, x4⟩
        have hen2 : xs ++ encIs (l.take (k + 1)) = xs ++ L ++ [1] ++ encN ⟨x1, x2, x3, x4⟩ ++ encN ⟨x5, x6, x7, x8⟩ := by rw [Hen.out]; simp [encI]
        have Hen2 := Lib.hid hen2
        clear hen2
        generalize encN ⟨x1, x2, x3, x4⟩ = n1 at HN el Hen2
        generalize encN ⟨x5, x6, x7, x8⟩ = n2 at HM Hen2
        go_wp2_with (first
          | (at_builtin; refine wpList_appB rfl (.tmp 27) (.tmp 28) rfl base v (xs ++ L) rfl HO1 (wr.heap.size + 1) 5 1 1 rfl (Blk.new1 wr _ _ _) (by omega) hba ?_; intro v3 W3 O3 hg3; obtain ⟨A3, n3, c3, rfl⟩ := O3.form; have HB3 := (HB1.alloc _).grown hg3 (hO.ne hB (by decide)); have BX3 := (BX.alloc _).grown hg3 (HO1.ne (BX.alloc _) (by decide)); have HK3 := (HKa.app HO1 hg3).store 0 (.slice A3 n3 c3); have HL3 := (HLa.grown hg3 hba (fun k hk => (hO.lt k hk).1)).setCell (p := ⟨p, 0, none⟩) hpb (.slice A3 n3 c3); obtain ⟨q3, f3⟩ := HB3.c1b; have HW3 := Wr.stored hpb HB3 O3; have BX4 := BX3.far (p := ⟨p, 0, none⟩) (fun e => hne e.symm) (.slice A3 n3 c3); have hb4 := Nat.le_trans hb HL3.size; clear hg3 HB1 q0 f0; obtain ⟨⟨y0, y1, y2, y3, y4, y5, y6, y7, y8⟩, ⟨g0, g1, g2, g3, g4, g5, g6, g7, g8⟩⟩ := BX3.c9; have hz3 : wr.heap.size < W3.heap.size := BX3.lt)
          | (go_at_call 70; first
            | ((with_reducible refine (HN.out (xs ++ L ++ [1]) _ HW3 hb4 (by rw [List.length_append, List.length_singleton]; omega)).mono ?_); rintro e w5 ⟨⟨v5, rfl⟩, HW5, HK5, HL5⟩; have BX5 := HK5 _ _ _ (fun e => hne e.symm) (by decide) BX4; have HK6 := HK3.trans HK5; have HL6 := HL3.trans HL5; have hb5 := Nat.le_trans hb4 HL5.size; clear y0 y1 y2 y3 y4 y5 y6 y7 y8 g0 g1 g2 g3 g4 g5 g6 g7 g8 HN; obtain ⟨⟨y0, y1, y2, y3, y4, y5, y6, y7, y8⟩, ⟨g0, g1, g2, g3, g4, g5, g6, g7, g8⟩⟩ := BX5.c9)
            | ((with_reducible refine (HM.out (xs ++ L ++ [1] ++ n1) _ HW5 hb5 (by rw [List.length_append, List.length_append, List.length_singleton]; omega)).mono ?_); rintro e w6 ⟨⟨v6, rfl⟩, HW6, HK7, HL7⟩; have HK8 := HK6.trans HK7; have HL8 := HL6.trans HL7; clear HM)))
        go_roundw
        case rel => exact ⟨k + 1, by omega, by go_num, by rw [Hen2.out]; exact HW6, HK8, HL8⟩
        case measure => simp [intOf] <;> omega
      · have BX := Blk.new wr 26 #[.bool true, .int .i64 x1, .bool x2, .int .u64 x3, .int .i64 x4, .int .i64 x5, .bool x6, .int .u64 x7, .int .i64 x8]
        have HB1 := hB.alloc (.cells #[.bool true, .int .i64 x1, .bool x2, .int .u64 x3, .int .i64 x4, .int .i64 x5, .bool x6, .int .u64 x7, .int .i64 x8] 26)
        obtain ⟨q0, f0⟩ := HB1.c1b
        have HO1 : OwnB ((wr.alloc (.cells #[.bool true, .int .i64 x1, .bool x2, .int .u64 x3, .int .i64 x4, .int .i64 x5, .bool x6, .int .u64 x7, .int .i64 x8] 26)).alloc (.cells #[.int .u8 0] 5)) base v (xs ++ L) := World.ownsRow.alloc (World.ownsRow.alloc hO _) _
        have HKa := (hKp.alloc (.cells #[.bool true, .int .i64 x1, .bool x2, .int .u64 x3, .int .i64 x4, .int .i64 x5, .bool x6, .int .u64 x7, .int .i64 x8] 26)).alloc (.cells #[.int .u8 0] 5)
        have HLa := (hL.alloc hbs (.cells #[.bool true, .int .i64 x1, .bool x2, .int .u64 x3, .int .i64 x4, .int .i64 x5, .bool x6, .int .u64 x7, .int .i64 x8] 26)).alloc (by simp; omega) (.cells #[.int .u8 0] 5)
        have hba : base ≤ ((wr.alloc (.cells #[.bool true, .int .i64 x1, .bool x2, .int .u64 x3, .int .i64 x4, .int .i64 x5, .bool x6, .int .u64 x7, .int .i64 x8] 26)).alloc (.cells #[.int .u8 0] 5)).heap.size := by simp; omega
        have hen2 : xs ++ encIs (l.take (k + 1)) = xs ++ L ++ [0] := by rw [Hen.out]; simp [encI]
        have Hen2 := Lib.hid hen2
        clear hen2
        go_wp2_with (at_builtin; refine wpList_appB rfl (.tmp 18) (.tmp 19) rfl base v (xs ++ L) rfl HO1 (wr.heap.size + 1) 5 0 1 rfl (Blk.new1 wr _ _ _) (by omega) hba ?_; intro v3 W3 O3 hg3; obtain ⟨A3, n3, c3, rfl⟩ := O3.form; have HB3 := (HB1.alloc _).grown hg3 (hO.ne hB (by decide)); have BX3 := (BX.alloc _).grown hg3 (HO1.ne (BX.alloc _) (by decide)); have HK3 := (HKa.app HO1 hg3).store 0 (.slice A3 n3 c3); have HL3 := (HLa.grown hg3 hba (fun k hk => (hO.lt k hk).1)).setCell (p := ⟨p, 0, none⟩) hpb (.slice A3 n3 c3); obtain ⟨q3, f3⟩ := HB3.c1b; have HW3 := Wr.stored hpb HB3 O3; have BX4 := BX3.far (p := ⟨p, 0, none⟩) (fun e => hne e.symm) (.slice A3 n3 c3); have hb4 := Nat.le_trans hb HL3.size; clear hg3 HB1 q0 f0)
        go_roundw
        case rel => exact ⟨k + 1, by omega, by go_num, by rw [Hen2.out]; exact HW3, HK3, HL3⟩
        case measure => simp [intOf] <;> omega
    · have hkn : q = k := by omega
      subst hkn
      have et : l.take q = l := List.take_of_length_le (by omega)
      rw [et] at HWr
      go_wp2
      go_end0
      exact ⟨⟨_, rfl⟩, HWr, hKp, hL⟩
end Go.Proofs.Ytakajahogjeiaab.Wk
