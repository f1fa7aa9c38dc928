/- Walk: pelorusref17.Same. -/
import Derived.Test.YtakajahogjeiaabSameO
import Derived.Test.YtakajahogjeiaabDecD
namespace Go.Proofs.Ytakajahogjeiaab.Wk
open Go.RowKit Go.Proofs.Pl Go.Proofs.YtakajahogjeiaabW.PrintLast
set_option linter.unusedSimpArgs false
set_option linter.unusedVariables false

theorem Blk.tbAt {w : World} {g : Nat} {t : TypeId} {s : Num} {i : Iv} {v : Value} (h : Blk w g t (tbCells s i v).toArray) : World.rangeAt w g 0 [.int .i64 s.k, .bool s.n, .int .u64 s.m, .int .i64 s.e] ∧ World.rangeAt w g 4 [.bool i.emp, .int .i64 i.lo.k, .bool i.lo.n, .int .u64 i.lo.m, .int .i64 i.lo.e, .int .i64 i.hi.k, .bool i.hi.n, .int .u64 i.hi.m, .int .i64 i.hi.e] := by
  constructor
  · intro j u hu
    have hc := h.cell (0 + j)
    rw [hc]
    match j, hu with
    | 0, hu => exact hu
    | 1, hu => exact hu
    | 2, hu => exact hu
    | 3, hu => exact hu
    | j + 4, hu => simp at hu
  · intro j u hu
    have hc := h.cell (4 + j)
    rw [hc]
    match j, hu with
    | 0, hu => exact hu
    | 1, hu => exact hu
    | 2, hu => exact hu
    | 3, hu => exact hu
    | 4, hu => exact hu
    | 5, hu => exact hu
    | 6, hu => exact hu
    | 7, hu => exact hu
    | 8, hu => exact hu
    | j + 9, hu => simp at hu
theorem neNumX (w : World) (x y : Num) : (binOp .neq 24 (.agg #[.int .i64 (x).k, .bool (x).n, .int .u64 (x).m, .int .i64 (x).e]) (.agg #[.int .i64 (y).k, .bool (y).n, .int .u64 (y).m, .int .i64 (y).e])).run Try.prog w = .ok (.bool (!decide (x = y))) w := by
  obtain ⟨x0, x1, x2, x3⟩ := x
  obtain ⟨y0, y1, y2, y3⟩ := y
  exact run_neNum w _ _ _ _ _ _ _ _
theorem neIvX (w : World) (x y : Iv) : (binOp .neq 26 (.agg #[.bool (x).emp, .int .i64 ((x).lo).k, .bool ((x).lo).n, .int .u64 ((x).lo).m, .int .i64 ((x).lo).e, .int .i64 ((x).hi).k, .bool ((x).hi).n, .int .u64 ((x).hi).m, .int .i64 ((x).hi).e]) (.agg #[.bool (y).emp, .int .i64 ((y).lo).k, .bool ((y).lo).n, .int .u64 ((y).lo).m, .int .i64 ((y).lo).e, .int .i64 ((y).hi).k, .bool ((y).hi).n, .int .u64 ((y).hi).m, .int .i64 ((y).hi).e])).run Try.prog w = .ok (.bool (!decide (x = y))) w := by
  obtain ⟨x0, ⟨x1, x2, x3, x4⟩, ⟨x5, x6, x7, x8⟩⟩ := x
  obtain ⟨y0, ⟨y1, y2, y3, y4⟩, ⟨y5, y6, y7, y8⟩⟩ := y
  exact run_neIv w _ _ _ _ _ _ _ _ _ _ _ _ _ _ _ _ _ _
theorem wpList_load_midG {ops : Array Oper} {rest : List Oper} {op : Oper} {a : Act} {w : World} {Q : Exit → Act → World → Prop} (hw : Region.wanted op (yielded ops a.tmps) = true) (ty : TypeId) (x : Operand) (ho : op.op = .load ty x)
    (b o : Nat) (hx : a.eval x = .pointer (some ⟨b, o, none⟩)) (cs : List Value) (d : TypeDesc) (hc : w.rangeAt b o cs)
    (hu : Try.prog.underlying ty = some d) (hd : d.isRow = true) (hi : (Try.prog.info? ty).map (·.size) = some cs.length)
    (h : wpList Try.prog ops Q rest (a.put op.dst (.agg cs.toArray)) w) : wpList Try.prog ops Q (op :: rest) a w :=
  wpList_step fun _ hK => by rw [if_pos hw]; exact wp_load_mid ty x ho b o hx cs d hc hu hd hi (hK _ _ h)
/-- equal tubes, up to what their slices are -/
def sameT (s : Num) (i : Iv) (xs : List Slc) (t : Num) (j : Iv) (ys : List Slc) : Bool := decide (s = t) && (decide (i = j) && decide (xs = ys))
set_option maxRecDepth 100000 in
set_option maxHeartbeats 8000000 in
theorem sameT_calls (s : Num) (i : Iv) (A : Option Addr) (n c : Nat) (hn : n ≤ 1000) (xs : List Slc) (t : Num) (j : Iv) (B : Option Addr) (m d : Nat) (ys : List Slc) (w : World) (hx : SlT w w.heap.size A n xs) (hy : SlT w w.heap.size B m ys) :
    Calls Try.prog 28 #[.agg (tbCells s i (.slice A n c)).toArray, .agg (tbCells t j (.slice B m d)).toArray] w fun e w' => e = .returned (.bool (sameT s i xs t j ys)) ∧ Below w.heap.size w w' := by
  have hxl := hx.1
  have hyl := hy.1
  have hs := fun W => neNumX W s t
  have hi := fun W => neIvX W i j
  unfold sameT
  generalize decide (s = t) = es at hs ⊢
  generalize decide (i = j) = ei at hi ⊢
  have HB0 := bl_alloc (bl_alloc (Below.refl w.heap.size w) (.cells (tbCells s i (.slice A n c)).toArray 34)) (.cells (tbCells t j (.slice B m d)).toArray 34)
  have X0 := (Blk.new w 34 (tbCells s i (.slice A n c)).toArray).alloc (.cells (tbCells t j (.slice B m d)).toArray 34)
  have Y0 := Blk.new1 w (.cells (tbCells s i (.slice A n c)).toArray 34) 34 (tbCells t j (.slice B m d)).toArray
  obtain ⟨xs1, xs2⟩ := X0.tbAt
  obtain ⟨ys1, ys2⟩ := Y0.tbAt
  have x13 := X0.tb13
  have y13 := Y0.tb13
  cases es
  · go_enter Try.func28, Try.ntmps28
    go_wp2_with (first
    | (refine wpList_load_midG (by rfl) 24 (.tmp 6) rfl w.heap.size 0 rfl [.int .i64 s.k, .bool s.n, .int .u64 s.m, .int .i64 s.e] _ xs1 Try.underlying24 rfl (by kernel_rfl) ?_)
    | (refine wpList_load_midG (by rfl) 24 (.tmp 8) rfl (w.heap.size + 1) 0 rfl [.int .i64 t.k, .bool t.n, .int .u64 t.m, .int .i64 t.e] _ ys1 Try.underlying24 rfl (by kernel_rfl) ?_)
    | (refine wpList_load_midG (by rfl) 26 (.tmp 12) rfl w.heap.size 4 rfl [.bool i.emp, .int .i64 i.lo.k, .bool i.lo.n, .int .u64 i.lo.m, .int .i64 i.lo.e, .int .i64 i.hi.k, .bool i.hi.n, .int .u64 i.hi.m, .int .i64 i.hi.e] _ xs2 Try.underlying26 rfl (by kernel_rfl) ?_)
    | (refine wpList_load_midG (by rfl) 26 (.tmp 14) rfl (w.heap.size + 1) 4 rfl [.bool j.emp, .int .i64 j.lo.k, .bool j.lo.n, .int .u64 j.lo.m, .int .i64 j.lo.e, .int .i64 j.hi.k, .bool j.hi.n, .int .u64 j.hi.m, .int .i64 j.hi.e] _ ys2 Try.underlying26 rfl (by kernel_rfl) ?_))
    go_ret
    exact ⟨rfl, HB0⟩
  cases ei
  · go_enter Try.func28, Try.ntmps28
    go_wp2_with (first
    | (refine wpList_load_midG (by rfl) 24 (.tmp 6) rfl w.heap.size 0 rfl [.int .i64 s.k, .bool s.n, .int .u64 s.m, .int .i64 s.e] _ xs1 Try.underlying24 rfl (by kernel_rfl) ?_)
    | (refine wpList_load_midG (by rfl) 24 (.tmp 8) rfl (w.heap.size + 1) 0 rfl [.int .i64 t.k, .bool t.n, .int .u64 t.m, .int .i64 t.e] _ ys1 Try.underlying24 rfl (by kernel_rfl) ?_)
    | (refine wpList_load_midG (by rfl) 26 (.tmp 12) rfl w.heap.size 4 rfl [.bool i.emp, .int .i64 i.lo.k, .bool i.lo.n, .int .u64 i.lo.m, .int .i64 i.lo.e, .int .i64 i.hi.k, .bool i.hi.n, .int .u64 i.hi.m, .int .i64 i.hi.e] _ xs2 Try.underlying26 rfl (by kernel_rfl) ?_)
    | (refine wpList_load_midG (by rfl) 26 (.tmp 14) rfl (w.heap.size + 1) 4 rfl [.bool j.emp, .int .i64 j.lo.k, .bool j.lo.n, .int .u64 j.lo.m, .int .i64 j.lo.e, .int .i64 j.hi.k, .bool j.hi.n, .int .u64 j.hi.m, .int .i64 j.hi.e] _ ys2 Try.underlying26 rfl (by kernel_rfl) ?_))
    go_ret
    exact ⟨rfl, HB0⟩
  rw [Bool.true_and, Bool.true_and]
  by_cases hnm : n = m
  · subst hnm
    go_enter Try.func28, Try.ntmps28
    go_wp2_with (first
    | (refine wpList_load_midG (by rfl) 24 (.tmp 6) rfl w.heap.size 0 rfl [.int .i64 s.k, .bool s.n, .int .u64 s.m, .int .i64 s.e] _ xs1 Try.underlying24 rfl (by kernel_rfl) ?_)
    | (refine wpList_load_midG (by rfl) 24 (.tmp 8) rfl (w.heap.size + 1) 0 rfl [.int .i64 t.k, .bool t.n, .int .u64 t.m, .int .i64 t.e] _ ys1 Try.underlying24 rfl (by kernel_rfl) ?_)
    | (refine wpList_load_midG (by rfl) 26 (.tmp 12) rfl w.heap.size 4 rfl [.bool i.emp, .int .i64 i.lo.k, .bool i.lo.n, .int .u64 i.lo.m, .int .i64 i.lo.e, .int .i64 i.hi.k, .bool i.hi.n, .int .u64 i.hi.m, .int .i64 i.hi.e] _ xs2 Try.underlying26 rfl (by kernel_rfl) ?_)
    | (refine wpList_load_midG (by rfl) 26 (.tmp 14) rfl (w.heap.size + 1) 4 rfl [.bool j.emp, .int .i64 j.lo.k, .bool j.lo.n, .int .u64 j.lo.m, .int .i64 j.lo.e, .int .i64 j.hi.k, .bool j.hi.n, .int .u64 j.hi.m, .int .i64 j.hi.e] _ ys2 Try.underlying26 rfl (by kernel_rfl) ?_))
    go_loopw [5] (fun i' wr => ∃ k : Nat, k ≤ n ∧ i' = .int .i64 k ∧ xs.take k = ys.take k ∧ Below w.heap.size w wr ∧ Blk wr w.heap.size 34 (tbCells s i (.slice A n c)).toArray ∧ Blk wr (w.heap.size + 1) 34 (tbCells t j (.slice B n d)).toArray) (fun i' _ => n - (intOf i').toNat)
    case atStart => exact ⟨0, Nat.zero_le _, rfl, rfl, HB0, X0, Y0⟩
    case round =>
      obtain ⟨k, hk, rfl, htk, HB, X, Y⟩ := hrel
      clear x13 y13 xs1 xs2 ys1 ys2
      have x13 := X.tb13
      have y13 := Y.tb13
      by_cases hlt : k < n
      · obtain ⟨b, off, rfl, hb, hcc⟩ := hx.2 (by omega)
        obtain ⟨b2, off2, rfl, hb2, hcc2⟩ := hy.2 (by omega)
        obtain ⟨x, hX⟩ : ∃ x, xs[k]? = some x := ⟨_, List.getElem?_eq_getElem (show k < xs.length by omega)⟩
        obtain ⟨y, hY⟩ : ∃ y, ys[k]? = some y := ⟨_, List.getElem?_eq_getElem (show k < ys.length by omega)⟩
        have r1 : World.rangeAt wr.drew b (off + k * 22) (slcCells x) := fun j u hu => (HB.cell (p := ⟨b, _, none⟩) hb).trans (hcc k x hX j u hu)
        have r2 : World.rangeAt wr.drew b2 (off2 + k * 22) (slcCells y) := fun j u hu => (HB.cell (p := ⟨b2, _, none⟩) hb2).trans (hcc2 k y hY j u hu)
        have hne := fun W => run_neSl W x y
        have Hno := Lib.hid (show ¬ x = y → xs ≠ ys from fun h e => by rw [e, hY] at hX; cases hX; exact h rfl)
        have Hyes := Lib.hid (fun e : x = y => take_eq htk hX hY e)
        have HBd := bl_drew HB
        have Xd := X.drew
        have Yd := Y.drew
        have hlti : (k : Int) < (n : Int) := by omega
        generalize hq : decide (x = y) = q at hne
        have Hq := Lib.hid hq
        clear hcc hcc2 hX hY htk hq hx hy
        go_wp2_with fail
        refine start_ (n := 11) (S := fun w' => World.rangeAt w' b (off + k * 22) (slcCells x) ∧ World.rangeAt w' b2 (off2 + k * 22) (slcCells y) ∧ w'.cell? ⟨w.heap.size, 13, none⟩ = some (.slice (some ⟨b, off, none⟩) n c) ∧ w'.cell? ⟨w.heap.size + 1, 13, none⟩ = some (.slice (some ⟨b2, off2, none⟩) n d)) (ds := []) #[false, false, false, false, false, false, false, false, false, false, false] (by kernel_rfl) rfl rfl ⟨r1, r2, Xd.tb13, Yd.tb13⟩ (fun hHeld => ?_)
        generalize wr.drew = W at r1 r2 HBd Xd Yd hHeld ⊢
        refine pure_ (i := 0) (N := some 34) (v := ?_) (a' := ?_) #[true, false, false, false, false, false, false, false, false, false, false] rfl rfl (by kernel_rfl) (fun _ _ _ h => h) (Or.inl ⟨by rfl, ?_⟩) ?_ ?_
        rotate_left
        · intro w'
          go_simp
          with_reducible rfl
        rotate_left
        · simp only [Act.put, List.setIfInBounds_toArray, List.set_cons_zero, List.set_cons_succ]
          rfl
        refine take_ (i := 1) (N := some 35) (v := ?_) (a' := ?_) #[true, true, false, false, false, false, false, false, false, false, false] rfl rfl (by kernel_rfl) (fun _ _ _ h => h) (Or.inl ⟨by rfl, ?_⟩) hHeld ?_ ?_
        rotate_left
        · rintro w' ⟨s0_, s1_, s2_, s3_⟩
          go_simp
          with_reducible rfl
        rotate_left
        · simp only [Act.put, List.setIfInBounds_toArray, List.set_cons_zero, List.set_cons_succ]
          rfl
        refine pure_ (i := 2) (N := some 36) (v := ?_) (a' := ?_) #[true, true, true, false, false, false, false, false, false, false, false] rfl rfl (by kernel_rfl) (fun _ _ _ h => h) (Or.inl ⟨by rfl, ?_⟩) ?_ ?_
        rotate_left
        · intro w'
          go_simp
          with_reducible rfl
        rotate_left
        · simp only [Act.put, List.setIfInBounds_toArray, List.set_cons_zero, List.set_cons_succ]
          rfl
        refine pure_ (i := 3) (N := some 37) (v := ?_) (a' := ?_) #[true, true, true, true, false, false, false, false, false, false, false] rfl rfl (by kernel_rfl) (fun _ _ _ h => h) (Or.inl ⟨by rfl, ?_⟩) ?_ ?_
        rotate_left
        · intro w'
          go_simp
          with_reducible rfl
        rotate_left
        · simp only [Act.put, List.setIfInBounds_toArray, List.set_cons_zero, List.set_cons_succ]
          rfl
        refine take_ (i := 4) (N := some 38) (v := .agg (slcCells x).toArray) (a' := ?_) #[true, true, true, true, true, false, false, false, false, false, false] rfl rfl (by kernel_rfl) (fun _ _ _ h => h) (yieldsIf_load_mid (by rfl) 88 (.tmp 37) rfl b (off + k * 22) rfl (slcCells x) _ (fun _ h => h.1) Try.underlying88 rfl (by kernel_rfl)) hHeld ?_ ?_
        rotate_left
        · simp only [Act.put, List.setIfInBounds_toArray, List.set_cons_zero, List.set_cons_succ]
          rfl
        refine pure_ (i := 5) (N := some 39) (v := ?_) (a' := ?_) #[true, true, true, true, true, true, false, false, false, false, false] rfl rfl (by kernel_rfl) (fun _ _ _ h => h) (Or.inl ⟨by rfl, ?_⟩) ?_ ?_
        rotate_left
        · intro w'
          go_simp
          with_reducible rfl
        rotate_left
        · simp only [Act.put, List.setIfInBounds_toArray, List.set_cons_zero, List.set_cons_succ]
          rfl
        refine take_ (i := 6) (N := some 40) (v := ?_) (a' := ?_) #[true, true, true, true, true, true, true, false, false, false, false] rfl rfl (by kernel_rfl) (fun _ _ _ h => h) (Or.inl ⟨by rfl, ?_⟩) hHeld ?_ ?_
        rotate_left
        · rintro w' ⟨s0_, s1_, s2_, s3_⟩
          go_simp
          with_reducible rfl
        rotate_left
        · simp only [Act.put, List.setIfInBounds_toArray, List.set_cons_zero, List.set_cons_succ]
          rfl
        refine pure_ (i := 7) (N := some 41) (v := ?_) (a' := ?_) #[true, true, true, true, true, true, true, true, false, false, false] rfl rfl (by kernel_rfl) (fun _ _ _ h => h) (Or.inl ⟨by rfl, ?_⟩) ?_ ?_
        rotate_left
        · intro w'
          go_simp
          with_reducible rfl
        rotate_left
        · simp only [Act.put, List.setIfInBounds_toArray, List.set_cons_zero, List.set_cons_succ]
          rfl
        refine pure_ (i := 8) (N := some 42) (v := ?_) (a' := ?_) #[true, true, true, true, true, true, true, true, true, false, false] rfl rfl (by kernel_rfl) (fun _ _ _ h => h) (Or.inl ⟨by rfl, ?_⟩) ?_ ?_
        rotate_left
        · intro w'
          go_simp
          with_reducible rfl
        rotate_left
        · simp only [Act.put, List.setIfInBounds_toArray, List.set_cons_zero, List.set_cons_succ]
          rfl
        refine take_ (i := 9) (N := some 43) (v := .agg (slcCells y).toArray) (a' := ?_) #[true, true, true, true, true, true, true, true, true, true, false] rfl rfl (by kernel_rfl) (fun _ _ _ h => h) (yieldsIf_load_mid (by rfl) 88 (.tmp 42) rfl b2 (off2 + k * 22) rfl (slcCells y) _ (fun _ h => h.2.1) Try.underlying88 rfl (by kernel_rfl)) hHeld ?_ ?_
        rotate_left
        · simp only [Act.put, List.setIfInBounds_toArray, List.set_cons_zero, List.set_cons_succ]
          rfl
        refine pure_ (i := 10) (N := some 44) (v := ?_) (a' := ?_) #[true, true, true, true, true, true, true, true, true, true, true] rfl rfl (by kernel_rfl) (fun _ _ _ h => h) (Or.inl ⟨by rfl, ?_⟩) ?_ ?_
        rotate_left
        · intro w'
          go_simp
          with_reducible rfl
        rotate_left
        · simp only [Act.put, List.setIfInBounds_toArray, List.set_cons_zero, List.set_cons_succ]
          rfl
        refine done_ (by kernel_rfl) ?_
        cases q
        · go_wp2
          go_ret
          exact ⟨by rw [decide_eq_false (Hno.out (of_decide_eq_false Hq.out))]; rfl, HBd⟩
        · go_wp2
          exact ⟨⟨k + 1, by omega, by go_num, Hyes.out (of_decide_eq_true Hq.out), HBd, Xd, Yd⟩, by simp [intOf] <;> omega⟩
      · have hkn : n = k := by omega
        subst hkn
        rw [List.take_of_length_le (by omega), List.take_of_length_le (by omega)] at htk
        go_wp2
        go_ret
        exact ⟨by rw [decide_eq_true htk]; rfl, HB⟩
  · have hni : ¬ (n : Int) = (m : Int) := by omega
    have hnb : ((n : Int) != (m : Int)) = true := bne_iff_ne.2 hni
    go_enter Try.func28, Try.ntmps28
    go_wp2_with (first
    | (refine wpList_load_midG (by rfl) 24 (.tmp 6) rfl w.heap.size 0 rfl [.int .i64 s.k, .bool s.n, .int .u64 s.m, .int .i64 s.e] _ xs1 Try.underlying24 rfl (by kernel_rfl) ?_)
    | (refine wpList_load_midG (by rfl) 24 (.tmp 8) rfl (w.heap.size + 1) 0 rfl [.int .i64 t.k, .bool t.n, .int .u64 t.m, .int .i64 t.e] _ ys1 Try.underlying24 rfl (by kernel_rfl) ?_)
    | (refine wpList_load_midG (by rfl) 26 (.tmp 12) rfl w.heap.size 4 rfl [.bool i.emp, .int .i64 i.lo.k, .bool i.lo.n, .int .u64 i.lo.m, .int .i64 i.lo.e, .int .i64 i.hi.k, .bool i.hi.n, .int .u64 i.hi.m, .int .i64 i.hi.e] _ xs2 Try.underlying26 rfl (by kernel_rfl) ?_)
    | (refine wpList_load_midG (by rfl) 26 (.tmp 14) rfl (w.heap.size + 1) 4 rfl [.bool j.emp, .int .i64 j.lo.k, .bool j.lo.n, .int .u64 j.lo.m, .int .i64 j.lo.e, .int .i64 j.hi.k, .bool j.hi.n, .int .u64 j.hi.m, .int .i64 j.hi.e] _ ys2 Try.underlying26 rfl (by kernel_rfl) ?_))
    go_ret
    exact ⟨by rw [decide_eq_false (fun e => hnm (by rw [← hxl, ← hyl, e]))]; rfl, HB0⟩
end Go.Proofs.Ytakajahogjeiaab.Wk
