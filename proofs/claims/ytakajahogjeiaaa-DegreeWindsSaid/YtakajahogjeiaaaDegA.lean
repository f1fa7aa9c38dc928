/- Walks: package degree's small functions and the reference's, for every spot that comes in (no condition). -/
import Derived.Test.YtakajahogjeiaaaRegLib
import Derived.Test.YtakajahogjeiaaaDegSum
import Derived.Laws.Small
namespace Go.Proofs.Ytakajahogjeiaaa.Wk
open Go.RowKit Go.Proofs.YtakajahogjeiaaaW.PrintLast
set_option linter.unusedSimpArgs false
set_option linter.unusedVariables false

theorem eqSpot (d : Nat) (w : World) (x0 y0 x1 y1 : Int) :
    (Op.equalIn (d + 2) 25 (.agg #[.int .i64 x0, .int .i64 x1]) (.agg #[.int .i64 y0, .int .i64 y1])).run Try.prog w = .ok (x0 == y0 && (x1 == y1)) w := by
  refine eqA_of Try.underlying25 (by kernel_rfl) ?_
  refine eqf_cons (by rfl) (by go_simp; rfl) (by go_simp; rfl) (by go_simp) ?_
  exact eqf_last (by rfl) (by go_simp; rfl) (by go_simp; rfl) (by go_simp)
theorem spotEq (x0 y0 x1 y1 : Int) : (x0 == y0 && (x1 == y1)) = decide (((x0, x1) : Deg.S) = (y0, y1)) := by
  rw [Bool.eq_iff_iff]; simp
theorem run_eqSpot (w : World) (x0 y0 x1 y1 : Int) :
    (binOp .eql 25 (.agg #[.int .i64 x0, .int .i64 x1]) (.agg #[.int .i64 y0, .int .i64 y1])).run Try.prog w = .ok (.bool (decide (((x0, x1) : Deg.S) = (y0, y1)))) w := by
  rw [← spotEq]; simp only [binOp]; simp [Op.equal, Op.maxDepth, eqSpot 9998 w]
theorem run_neSpot (w : World) (x0 y0 x1 y1 : Int) :
    (binOp .neq 25 (.agg #[.int .i64 x0, .int .i64 x1]) (.agg #[.int .i64 y0, .int .i64 y1])).run Try.prog w = .ok (.bool (!decide (((x0, x1) : Deg.S) = (y0, y1)))) w := by
  rw [← spotEq]; simp only [binOp]; simp [Op.equal, Op.maxDepth, eqSpot 9998 w]

theorem run_max4 {P : Program} {w : World} (ts : Array TypeId) (t : TypeId) (x y z u : Int) : (Builtin.max_ ts t #[.int .i64 x, .int .i64 y, .int .i64 z, .int .i64 u]).run P w = .ok (.int .i64 (max (max (max x y) z) u)) w := by
  have h : ∀ a b : Int, (if b > a then b else a) = max a b := fun a b => by split <;> omega
  simp [Builtin.max_, Builtin.max2]
  omega
theorem run_min2 {P : Program} {w : World} (ts : Array TypeId) (t : TypeId) (x y : Int) : (Builtin.min_ ts t #[.int .i64 x, .int .i64 y]).run P w = .ok (.int .i64 (min x y)) w := by
  simp [Builtin.min_, Builtin.min2]
  omega
theorem fits_eq (x y : Int) : Deg.fits (x, y) = (decide (max (max (max x (wrap64 (-x))) y) (wrap64 (-y)) ≤ 1073741824) && decide (min x y ≥ -1073741824)) := by
  unfold Deg.fits wrap64
  rw [Bool.eq_iff_iff]
  simp only [Bool.and_eq_true, decide_eq_true_eq]
  omega
attribute [local go_sem] run_max4 run_min2


theorem ret_bool {a b : Bool} (h : a = b) : Ending.returned (.bool a) = Ending.returned (.bool b) := by rw [h]
theorem ret_int {a b : Int} (h : a = b) : Ending.returned (.int .i64 a) = Ending.returned (.int .i64 b) := by rw [h]
theorem Blk.c2 {w : World} {g : Nat} {t : TypeId} {x0 x1 : Value} (h : Blk w g t #[x0, x1]) : (w.cell? ⟨g, 0, none⟩ = some x0 ∧ w.cell? ⟨g, 1, none⟩ = some x1) ∧ (w.frozen? ⟨g, 0, none⟩ = false ∧ w.frozen? ⟨g, 1, none⟩ = false) :=
  ⟨⟨h.cell 0, h.cell 1⟩, h.frozen 0, h.frozen 1⟩

set_option maxHeartbeats 800000 in
theorem fits_calls (x y : Int) (w : World) :
    Calls Try.prog 48 #[.agg #[.int .i64 x, .int .i64 y]] w fun e w' => e = .returned (.bool (Deg.fits (x, y))) ∧ Below w.heap.size w w' := by
  rw [fits_eq]
  go_enter Try.func48, Try.ntmps48
  go_wp2
  all_goals go_ret
  all_goals refine ⟨?_, (Below.refl _ _).alloc (Nat.le_refl _) _⟩
  all_goals first
    | (refine ret_bool ?_; rw [decide_eq_decide]; omega)
    | (refine ret_bool (Eq.symm ?_); rw [Bool.and_eq_false_iff]; left; rw [decide_eq_false_iff_not]; omega)

theorem isNaN_calls (x : Int) (w : World) :
    Calls Try.prog 87 #[.int .i64 x] w fun e w' => e = .returned (.bool false) ∧ Below w.heap.size w w' := by
  go_enter Try.func87, Try.ntmps87
  go_wp2
  all_goals go_ret
  all_goals exact ⟨by simp, Below.refl _ _⟩

def cmpI (x y : Int) : Int := if x < y then -1 else if y < x then 1 else 0
set_option maxHeartbeats 800000 in
theorem compare_calls (x y : Int) (w : World) :
    Calls Try.prog 58 #[.int .i64 x, .int .i64 y] w fun e w' => e = .returned (.int .i64 (cmpI x y)) ∧ Below w.heap.size w w' := by
  go_enter Try.func58, Try.ntmps58
  go_wp2_with (go_at_call 87; first
    | ((with_reducible refine (isNaN_calls x _).mono ?_); rintro e w1 ⟨rfl, hb1⟩)
    | ((with_reducible refine (isNaN_calls y _).mono ?_); rintro e w2 ⟨rfl, hb2⟩; have HB := bl_trans hb1 hb2; clear hb1 hb2))
  all_goals go_ret
  all_goals exact ⟨by simp_all [cmpI] <;> omega, HB⟩

theorem mul_bd {x y : Int} (h0 : -1073741824 ≤ x) (h1 : x ≤ 1073741824) (h2 : -1073741824 ≤ y) (h3 : y ≤ 1073741824) : -1152921504606846976 ≤ x * y ∧ x * y ≤ 1152921504606846976 := by
  have a : 0 ≤ (1073741824 - x) * (1073741824 - y) := Int.mul_nonneg (by omega) (by omega)
  have b : 0 ≤ (1073741824 + x) * (1073741824 + y) := Int.mul_nonneg (by omega) (by omega)
  have c : 0 ≤ (1073741824 - x) * (1073741824 + y) := Int.mul_nonneg (by omega) (by omega)
  have d : 0 ≤ (1073741824 + x) * (1073741824 - y) := Int.mul_nonneg (by omega) (by omega)
  rw [Int.sub_mul, Int.mul_sub, Int.mul_sub] at a
  rw [Int.add_mul, Int.mul_add, Int.mul_add] at b
  rw [Int.sub_mul, Int.mul_add, Int.mul_add] at c
  rw [Int.add_mul, Int.mul_sub, Int.mul_sub] at d
  omega
theorem fits_bd {a : Deg.S} (h : Deg.fits a = true) : -1073741824 ≤ a.1 ∧ a.1 ≤ 1073741824 ∧ -1073741824 ≤ a.2 ∧ a.2 ≤ 1073741824 := by
  unfold Deg.fits at h
  exact of_decide_eq_true h
theorem fits_mul {a b : Deg.S} (ha : Deg.fits a = true) (hb : Deg.fits b = true) : wrap64 (a.1 * b.2) = a.1 * b.2 ∧ wrap64 (a.2 * b.1) = a.2 * b.1 := by
  obtain ⟨a0, a1, a2, a3⟩ := fits_bd ha
  obtain ⟨b0, b1, b2, b3⟩ := fits_bd hb
  have h1 := mul_bd a0 a1 b2 b3
  have h2 := mul_bd a2 a3 b0 b1
  unfold wrap64
  omega
/-- the side, of spots that fit -/
def sideP (a b : Deg.S) : Int := if Deg.fits a && Deg.fits b then Deg.side a b else 0
theorem sideP_fit {a b : Deg.S} (ha : Deg.fits a = true) (hb : Deg.fits b = true) : sideP a b = Deg.side a b := by simp [sideP, ha, hb]

set_option maxHeartbeats 800000 in
theorem side_calls (x y u v : Int) (w : World) :
    Calls Try.prog 22 #[.agg #[.int .i64 x, .int .i64 y], .agg #[.int .i64 u, .int .i64 v]] w fun e w' => e = .returned (.int .i64 (sideP (x, y) (u, v))) ∧ Below w.heap.size w w' := by
  have HF := Lib.hid (fun W => fits_calls x y W)
  have HG := Lib.hid (fun W => fits_calls u v W)
  have HC := Lib.hid (fun W a b => compare_calls a b W)
  have he : Deg.fits (x, y) = true → Deg.fits (u, v) = true → cmpI (wrap64 (x * v)) (wrap64 (y * u)) = Deg.side (x, y) (u, v) := fun h1 h2 => by
    have := fits_mul h1 h2
    dsimp only at this
    rw [this.1, this.2]
    rfl
  have He := Lib.hid he
  clear he
  unfold sideP
  generalize Deg.fits (x, y) = p at HF He ⊢
  generalize Deg.fits (u, v) = q at HG He ⊢
  generalize Deg.side (x, y) (u, v) = s at He ⊢
  cases p <;> cases q
  all_goals
    go_enter Try.func22, Try.ntmps22
    go_wp2_with (first
      | (go_at_call 48; first
        | ((with_reducible refine (HF.out _).mono ?_); rintro e w1 ⟨rfl, hb1⟩; have BA := ((Blk.new w _ _).alloc _).call hb1; have BB := (Blk.new1 w _ _ _).call hb1; have HB := bl_trans (bl_alloc (bl_alloc (Below.refl w.heap.size w) _) _) hb1; obtain ⟨⟨q0, q1⟩, ⟨f0, f1⟩⟩ := BA.c2; obtain ⟨⟨r0, r1⟩, ⟨g0, g1⟩⟩ := BB.c2; clear hb1)
        | ((with_reducible refine (HG.out _).mono ?_); rintro e w2 ⟨rfl, hb2⟩; have BA := BA.call hb2; have BB := BB.call hb2; have HB := bl_trans HB hb2; clear q0 q1 f0 f1 r0 r1 g0 g1; obtain ⟨⟨q0, q1⟩, ⟨f0, f1⟩⟩ := BA.c2; obtain ⟨⟨r0, r1⟩, ⟨g0, g1⟩⟩ := BB.c2; clear hb2))
      | (go_at_call 58; (with_reducible refine (HC.out _ _ _).mono ?_); rintro e w3 ⟨rfl, hb3⟩; have HB := bl_trans HB hb3; clear hb3))
    go_ret
    exact ⟨by first | rfl | exact ret_int (He.out (by simp) (by simp)), HB⟩

set_option maxHeartbeats 800000 in
theorem quarter_calls (x y : Int) (w : World) :
    Calls Try.prog 83 #[.agg #[.int .i64 x, .int .i64 y]] w fun e w' => e = .returned (.int .i64 (Deg.quarter (x, y))) ∧ Below w.heap.size w w' := by
  unfold Deg.quarter
  go_enter Try.func83, Try.ntmps83
  go_wp2
  all_goals go_ret
  all_goals refine ⟨?_, (Below.refl _ _).alloc (Nat.le_refl _) _⟩
  all_goals (refine ret_int ?_; repeat' split) <;> first | rfl | omega | (exfalso; omega)

theorem quarter_bd (a : Deg.S) : 0 ≤ Deg.quarter a ∧ Deg.quarter a ≤ 3 := by unfold Deg.quarter; (repeat' split) <;> omega
theorem sideP_bd (a b : Deg.S) : -1 ≤ sideP a b ∧ sideP a b ≤ 1 := by
  unfold sideP Deg.side
  (repeat' split) <;> omega

/-- what a line tells -/
def quartersP (a b : Deg.S) : Int × Bool := if Deg.badT a b (sideP a b) then (0, false) else (Deg.qsT a b (sideP a b), true)
theorem quartersP_fit {a b : Deg.S} (ha : Deg.fits a = true) (hb : Deg.fits b = true) : quartersP a b = if Deg.bad a b then (0, false) else (Deg.qs a b, true) := by
  unfold quartersP
  rw [sideP_fit ha hb]
  rfl
theorem quartersP_eq (a b : Deg.S) : quartersP a b = if a = (0, 0) ∨ b = (0, 0) then (0, false) else if Deg.turn a b = 2 ∧ sideP a b = 0 then (0, false) else if Deg.turn a b = 2 then (2 * sideP a b, true) else if Deg.turn a b = 3 then (-1, true) else (Deg.turn a b, true) := by
  unfold quartersP Deg.badT Deg.qsT
  by_cases h0 : a = (0, 0)
  · simp [h0]
  · by_cases h1 : b = (0, 0)
    · simp [h1]
    · by_cases h2 : Deg.turn a b = 2
      · by_cases h3 : sideP a b = 0 <;> simp [h0, h1, h2, h3]
      · by_cases h4 : Deg.turn a b = 3 <;> simp [h0, h1, h2, h4]
theorem ret_pair {a b : Int} {p q : Bool} (h : a = b) (h' : p = q) : Ending.returned (.tuple #[.int .i64 a, .bool p]) = Ending.returned (.tuple #[.int .i64 b, .bool q]) := by rw [h, h']

set_option maxRecDepth 100000 in
set_option maxHeartbeats 2000000 in
theorem quarters_calls (x y u v : Int) (w : World) :
    Calls Try.prog 51 #[.agg #[.int .i64 x, .int .i64 y], .agg #[.int .i64 u, .int .i64 v]] w fun e w' => e = .returned (.tuple #[.int .i64 (quartersP (x, y) (u, v)).1, .bool (quartersP (x, y) (u, v)).2]) ∧ Below w.heap.size w w' := by
  have HP := Lib.hid (fun W => quarter_calls x y W)
  have HQ := Lib.hid (fun W => quarter_calls u v W)
  have HS := Lib.hid (fun W => side_calls x y u v W)
  rw [quartersP_eq]
  have hs := sideP_bd (x, y) (u, v)
  unfold Deg.turn
  have h0 := quarter_bd (x, y)
  have h1 := quarter_bd (u, v)
  generalize Deg.quarter (x, y) = p at HP h0 ⊢
  generalize Deg.quarter (u, v) = q at HQ h1 ⊢
  generalize sideP (x, y) (u, v) = s at HS hs ⊢
  obtain ⟨h0a, h0b⟩ := h0
  obtain ⟨h1a, h1b⟩ := h1
  obtain ⟨hsa, hsb⟩ := hs
  have e1 := fun W => run_eqSpot W x 0 y 0
  have e2 := fun W => run_eqSpot W u 0 v 0
  go_enter Try.func51, Try.ntmps51
  go_wp2_with fail
  have BA := ((Blk.new w 25 #[.int .i64 x, .int .i64 y]).alloc (.cells #[.int .i64 u, .int .i64 v] 25)).drew
  have BB := (Blk.new1 w (.cells #[.int .i64 x, .int .i64 y] 25) 25 #[.int .i64 u, .int .i64 v]).drew
  have HB := bl_drew (bl_alloc (bl_alloc (Below.refl w.heap.size w) (.cells #[.int .i64 x, .int .i64 y] 25)) (.cells #[.int .i64 u, .int .i64 v] 25))
  refine start_ (n := 8) (S := fun w' => w'.cell? ⟨w.heap.size, 0, none⟩ = some (.int .i64 x) ∧ w'.cell? ⟨w.heap.size, 1, none⟩ = some (.int .i64 y) ∧ w'.cell? ⟨w.heap.size + 1, 0, none⟩ = some (.int .i64 u) ∧ w'.cell? ⟨w.heap.size + 1, 1, none⟩ = some (.int .i64 v)) (ds := []) #[false, false, false, false, false, false, false, false] (by kernel_rfl) rfl rfl ⟨BA.cell 0, BA.cell 1, BB.cell 0, BB.cell 1⟩ (fun hHeld => ?_)
  refine take_ (i := 0) (N := some 8) (v := ?_) (a' := ?_) #[true, false, false, false, false, false, false, false] rfl rfl (by kernel_rfl) (fun _ _ _ h => h) (Or.inl ⟨by rfl, ?_⟩) hHeld ?_ ?_
  rotate_left
  · rintro w' ⟨s0_, s1_, s2_, s3_⟩
    go_simp
    with_reducible rfl
  rotate_left
  · simp only [Act.put, List.setIfInBounds_toArray, List.set_cons_zero, List.set_cons_succ]
    rfl
  refine take_ (i := 2) (N := some 10) (v := ?_) (a' := ?_) #[true, false, true, false, false, false, false, false] rfl rfl (by kernel_rfl) (fun _ _ _ h => h) (Or.inl ⟨by rfl, ?_⟩) hHeld ?_ ?_
  rotate_left
  · rintro w' ⟨s0_, s1_, s2_, s3_⟩
    go_simp
    with_reducible rfl
  rotate_left
  · simp only [Act.put, List.setIfInBounds_toArray, List.set_cons_zero, List.set_cons_succ]
    rfl
  refine one_ (i := 1) (N := some 9) #[true, true, true, false, false, false, false, false] rfl rfl (by kernel_rfl) (by decide) (fun K hK => ?_)
  refine goes_ Try.func83 (by kernel_rfl) rfl #[.agg #[.int .i64 u, .int .i64 v]] (by rfl) rfl rfl (by simp only [List.map_toArray, List.map_cons, List.map_nil] <;> rfl) ?_
  with_reducible refine (HQ.out _).mono ?_
  rintro e w1 ⟨rfl, hb⟩
  refine ⟨_, rfl, ?_⟩
  have BA := BA.call hb
  have BB := BB.call hb
  have HB := bl_trans HB hb
  refine hK.out _ _ ⟨BA.cell 0, BA.cell 1, BB.cell 0, BB.cell 1⟩ (fun hHeld => ?_)
  clear hK K hb
  refine norm_ (a' := ?_) ?_ ?_
  rotate_left
  · show Act.put _ (some 9) _ = _
    simp only [Act.put, List.setIfInBounds_toArray, List.set_cons_zero, List.set_cons_succ]
    rfl
  refine one_ (i := 3) (N := some 11) #[true, true, true, true, false, false, false, false] rfl rfl (by kernel_rfl) (by decide) (fun K hK => ?_)
  refine goes_ Try.func83 (by kernel_rfl) rfl #[.agg #[.int .i64 x, .int .i64 y]] (by rfl) rfl rfl (by simp only [List.map_toArray, List.map_cons, List.map_nil] <;> rfl) ?_
  with_reducible refine (HP.out _).mono ?_
  rintro e w2 ⟨rfl, hb⟩
  refine ⟨_, rfl, ?_⟩
  have BA := BA.call hb
  have BB := BB.call hb
  have HB := bl_trans HB hb
  refine hK.out _ _ ⟨BA.cell 0, BA.cell 1, BB.cell 0, BB.cell 1⟩ (fun hHeld => ?_)
  clear hK K hb
  refine norm_ (a' := ?_) ?_ ?_
  rotate_left
  · show Act.put _ (some 11) _ = _
    simp only [Act.put, List.setIfInBounds_toArray, List.set_cons_zero, List.set_cons_succ]
    rfl
  refine pure_ (i := 4) (N := some 12) (v := ?_) (a' := ?_) #[true, true, true, true, true, false, false, false] rfl rfl (by kernel_rfl) (fun _ _ _ h => h) (Or.inl ⟨by rfl, ?_⟩) ?_ ?_
  rotate_left
  · intro w'
    go_simp
    with_reducible rfl
  rotate_left
  · simp only [Act.put, List.setIfInBounds_toArray, List.set_cons_zero, List.set_cons_succ]
    rfl
  refine pure_ (i := 5) (N := some 13) (v := ?_) (a' := ?_) #[true, true, true, true, true, true, false, false] rfl rfl (by kernel_rfl) (fun _ _ _ h => h) (Or.inl ⟨by rfl, ?_⟩) ?_ ?_
  rotate_left
  · intro w'
    go_simp
    with_reducible rfl
  rotate_left
  · simp only [Act.put, List.setIfInBounds_toArray, List.set_cons_zero, List.set_cons_succ]
    rfl
  refine pure_ (i := 6) (N := some 14) (v := ?_) (a' := ?_) #[true, true, true, true, true, true, true, false] rfl rfl (by kernel_rfl) (fun _ _ _ h => h) (Or.inl ⟨by rfl, ?_⟩) ?_ ?_
  rotate_left
  · intro w'
    go_simp
    with_reducible rfl
  rotate_left
  · simp only [Act.put, List.setIfInBounds_toArray, List.set_cons_zero, List.set_cons_succ]
    rfl
  refine pure_ (i := 7) (N := some 6) (v := ?_) (a' := ?_) #[true, true, true, true, true, true, true, true] rfl rfl (by kernel_rfl) (fun _ _ _ h => h) (Or.inl ⟨by rfl, ?_⟩) ?_ ?_
  rotate_left
  · intro w'
    go_simp
    with_reducible rfl
  rotate_left
  · simp only [Act.put, List.setIfInBounds_toArray, List.set_cons_zero, List.set_cons_succ]
    rfl
  refine done_ (by kernel_rfl) ?_
  clear hHeld
  obtain ⟨⟨q0, q1⟩, ⟨f0, f1⟩⟩ := BA.c2
  obtain ⟨⟨r0, r1⟩, ⟨g0, g1⟩⟩ := BB.c2
  go_wp2_with (go_at_call 22; (with_reducible refine (HS.out _).mono ?_); rintro e w8 ⟨rfl, hb⟩; have BA8 := BA.call hb; have BB8 := BB.call hb; have HB8 := bl_trans HB hb; clear q0 q1 f0 f1 r0 r1 g0 g1; obtain ⟨⟨q0, q1⟩, ⟨f0, f1⟩⟩ := BA8.c2; obtain ⟨⟨r0, r1⟩, ⟨g0, g1⟩⟩ := BB8.c2; clear hb)
  all_goals go_ret2
  all_goals refine ⟨?_, HB8⟩
  all_goals (refine ret_pair ?_ ?_ <;> first | rfl | (simp_all; done) | (simp_all; omega))
end Go.Proofs.Ytakajahogjeiaaa.Wk
