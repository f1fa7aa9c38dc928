/- Walk: pelorusref23.Same. -/
import Derived.Test.YtakajahogjeiaabDecC
namespace Go.Proofs.Ytakajahogjeiaab.Wk
open Go.RowKit Go.Proofs.Pl Go.Proofs.YtakajahogjeiaabW.PrintLast
set_option linter.unusedSimpArgs false
set_option linter.unusedVariables false

def ivB (x y : Iv) : Bool := x.emp == y.emp && ((x.lo.k == y.lo.k && (x.lo.n == y.lo.n && (x.lo.m == y.lo.m && x.lo.e == y.lo.e))) && (x.hi.k == y.hi.k && (x.hi.n == y.hi.n && (x.hi.m == y.hi.m && x.hi.e == y.hi.e))))
def opEqB (x y : Op) : Bool :=
  x.k == y.k && ((x.t.k == y.t.k && (x.t.n == y.t.n && (x.t.m == y.t.m && x.t.e == y.t.e))) && (ivB x.a y.a && (ivB x.b y.b && ivB x.c y.c)))
theorem opEq (x y : Op) : opEqB x y = true ↔ x = y := by
  obtain ⟨k, ⟨t0, t1, t2, t3⟩, ⟨a0, ⟨a1, a2, a3, a4⟩, ⟨a5, a6, a7, a8⟩⟩, ⟨b0, ⟨b1, b2, b3, b4⟩, ⟨b5, b6, b7, b8⟩⟩, ⟨c0, ⟨c1, c2, c3, c4⟩, ⟨c5, c6, c7, c8⟩⟩⟩ := x
  obtain ⟨k', ⟨u0, u1, u2, u3⟩, ⟨d0, ⟨d1, d2, d3, d4⟩, ⟨d5, d6, d7, d8⟩⟩, ⟨e0, ⟨e1, e2, e3, e4⟩, ⟨e5, e6, e7, e8⟩⟩, ⟨f0, ⟨f1, f2, f3, f4⟩, ⟨f5, f6, f7, f8⟩⟩⟩ := y
  simp [opEqB, ivB, Op.mk.injEq, Num.mk.injEq, Iv.mk.injEq, and_assoc]
instance : DecidableEq Op := fun x y => decidable_of_iff (opEqB x y = true) (opEq x y)
theorem opEqD (x y : Op) : opEqB x y = decide (x = y) := by
  rw [Bool.eq_iff_iff, opEq]; simp
def slEqB (x y : Slc) : Bool :=
  (x.e.k == y.e.k && (x.e.n == y.e.n && (x.e.m == y.e.m && x.e.e == y.e.e))) && (ivB x.a y.a && ivB x.o y.o)
theorem slEq (x y : Slc) : slEqB x y = true ↔ x = y := by
  obtain ⟨⟨t0, t1, t2, t3⟩, ⟨a0, ⟨a1, a2, a3, a4⟩, ⟨a5, a6, a7, a8⟩⟩, ⟨b0, ⟨b1, b2, b3, b4⟩, ⟨b5, b6, b7, b8⟩⟩⟩ := x
  obtain ⟨⟨u0, u1, u2, u3⟩, ⟨d0, ⟨d1, d2, d3, d4⟩, ⟨d5, d6, d7, d8⟩⟩, ⟨e0, ⟨e1, e2, e3, e4⟩, ⟨e5, e6, e7, e8⟩⟩⟩ := y
  simp [slEqB, ivB, Slc.mk.injEq, Num.mk.injEq, Iv.mk.injEq, and_assoc]
instance : DecidableEq Slc := fun x y => decidable_of_iff (slEqB x y = true) (slEq x y)
theorem slEqD (x y : Slc) : slEqB x y = decide (x = y) := by
  rw [Bool.eq_iff_iff, slEq]; simp
set_option maxRecDepth 100000 in
theorem eqOp (d : Nat) (w : World) (x y : Op) : (Go.Op.equalIn (d + 4) 82 (.agg (opCells x).toArray) (.agg (opCells y).toArray)).run Try.prog w = .ok (opEqB x y) w := by
  obtain ⟨k, ⟨t0, t1, t2, t3⟩, ⟨a0, ⟨a1, a2, a3, a4⟩, ⟨a5, a6, a7, a8⟩⟩, ⟨b0, ⟨b1, b2, b3, b4⟩, ⟨b5, b6, b7, b8⟩⟩, ⟨c0, ⟨c1, c2, c3, c4⟩, ⟨c5, c6, c7, c8⟩⟩⟩ := x
  obtain ⟨k', ⟨u0, u1, u2, u3⟩, ⟨d0, ⟨d1, d2, d3, d4⟩, ⟨d5, d6, d7, d8⟩⟩, ⟨e0, ⟨e1, e2, e3, e4⟩, ⟨e5, e6, e7, e8⟩⟩, ⟨f0, ⟨f1, f2, f3, f4⟩, ⟨f5, f6, f7, f8⟩⟩⟩ := y
  unfold opCells
  refine eqA_of Try.underlying82 (by kernel_rfl) ?_
  refine eqf_cons (by rfl) (by go_simp; rfl) (by go_simp; rfl) (by go_simp) ?_
  refine eqf_cons (by rfl) (by go_simp) (by go_simp) (eqNum (d + 1) w _ _ _ _ _ _ _ _) ?_
  refine eqf_cons (by rfl) (by go_simp) (by go_simp) (eqIv (d + 0) w _ _ _ _ _ _ _ _ _ _ _ _ _ _ _ _ _ _) ?_
  refine eqf_cons (by rfl) (by go_simp) (by go_simp) (eqIv (d + 0) w _ _ _ _ _ _ _ _ _ _ _ _ _ _ _ _ _ _) ?_
  exact eqf_last (by rfl) (by go_simp) (by go_simp) (eqIv (d + 0) w _ _ _ _ _ _ _ _ _ _ _ _ _ _ _ _ _ _)
theorem run_neOp (w : World) (x y : Op) : (binOp .neq 82 (.agg (opCells x).toArray) (.agg (opCells y).toArray)).run Try.prog w = .ok (.bool (!decide (x = y))) w := by
  rw [← opEqD]; simp only [binOp]; simp [Go.Op.equal, Go.Op.maxDepth, eqOp 9996 w]
set_option maxRecDepth 100000 in
theorem eqSl (d : Nat) (w : World) (x y : Slc) : (Go.Op.equalIn (d + 4) 88 (.agg (slcCells x).toArray) (.agg (slcCells y).toArray)).run Try.prog w = .ok (slEqB x y) w := by
  obtain ⟨⟨t0, t1, t2, t3⟩, ⟨a0, ⟨a1, a2, a3, a4⟩, ⟨a5, a6, a7, a8⟩⟩, ⟨b0, ⟨b1, b2, b3, b4⟩, ⟨b5, b6, b7, b8⟩⟩⟩ := x
  obtain ⟨⟨u0, u1, u2, u3⟩, ⟨d0, ⟨d1, d2, d3, d4⟩, ⟨d5, d6, d7, d8⟩⟩, ⟨e0, ⟨e1, e2, e3, e4⟩, ⟨e5, e6, e7, e8⟩⟩⟩ := y
  unfold slcCells
  refine eqA_of Try.underlying88 (by kernel_rfl) ?_
  refine eqf_cons (by rfl) (by go_simp) (by go_simp) (eqNum (d + 1) w _ _ _ _ _ _ _ _) ?_
  refine eqf_cons (by rfl) (by go_simp) (by go_simp) (eqIv (d + 0) w _ _ _ _ _ _ _ _ _ _ _ _ _ _ _ _ _ _) ?_
  exact eqf_last (by rfl) (by go_simp) (by go_simp) (eqIv (d + 0) w _ _ _ _ _ _ _ _ _ _ _ _ _ _ _ _ _ _)
theorem run_neSl (w : World) (x y : Slc) : (binOp .neq 88 (.agg (slcCells x).toArray) (.agg (slcCells y).toArray)).run Try.prog w = .ok (.bool (!decide (x = y))) w := by
  rw [← slEqD]; simp only [binOp]; simp [Go.Op.equal, Go.Op.maxDepth, eqSl 9996 w]
theorem take_eq {α : Type} {xs ys : List α} {k : Nat} {x y : α} (h : xs.take k = ys.take k) (hx : xs[k]? = some x) (hy : ys[k]? = some y) (e : x = y) : xs.take (k + 1) = ys.take (k + 1) := by
  rw [List.take_add_one, List.take_add_one, h, hx, hy, e]
set_option maxRecDepth 100000 in
set_option maxHeartbeats 4000000 in
theorem sameO_calls (A : Option Addr) (n c : Nat) (hn : n ≤ 1000) (xs : List Op) (B : Option Addr) (m d : Nat) (ys : List Op) (w : World) (hx : SlO w w.heap.size A n xs) (hy : SlO w w.heap.size B m ys) :
    Calls Try.prog 27 #[.slice A n c, .slice B m d] w fun e w' => e = .returned (.bool (decide (xs = ys))) ∧ Below w.heap.size w w' := by
  have hxl := hx.1
  have hyl := hy.1
  by_cases hnm : n = m
  · subst hnm
    go_enter Try.func27, Try.ntmps27
    go_wp2
    go_loopw [5] (fun i wr => ∃ k : Nat, k ≤ n ∧ i = .int .i64 k ∧ xs.take k = ys.take k ∧ Below w.heap.size w wr) (fun i _ => n - (intOf i).toNat)
    case atStart => exact ⟨0, Nat.zero_le _, rfl, rfl, Below.refl _ _⟩
    case round =>
      obtain ⟨k, hk, rfl, htk, HB⟩ := hrel
      by_cases hlt : k < n
      · obtain ⟨b, off, rfl, hb, hcc⟩ := hx.2 (by omega)
        obtain ⟨b2, off2, rfl, hb2, hcc2⟩ := hy.2 (by omega)
        obtain ⟨x, hX⟩ : ∃ x, xs[k]? = some x := ⟨_, List.getElem?_eq_getElem (show k < xs.length by omega)⟩
        obtain ⟨y, hY⟩ : ∃ y, ys[k]? = some y := ⟨_, List.getElem?_eq_getElem (show k < ys.length by omega)⟩
        have r1 : World.rangeAt wr.drew b (off + k * 32) (opCells x) := fun j u hu => (HB.cell (p := ⟨b, _, none⟩) hb).trans (hcc k x hX j u hu)
        have r2 : World.rangeAt wr.drew b2 (off2 + k * 32) (opCells y) := fun j u hu => (HB.cell (p := ⟨b2, _, none⟩) hb2).trans (hcc2 k y hY j u hu)
        have hne := fun W => run_neOp W x y
        have Hno := Lib.hid (show ¬ x = y → xs ≠ ys from fun h e => by rw [e, hY] at hX; cases hX; exact h rfl)
        have Hyes := Lib.hid (fun e : x = y => take_eq htk hX hY e)
        have HBd := bl_drew HB
        have hlti : (k : Int) < (n : Int) := by omega
        generalize hq : decide (x = y) = q at hne
        have Hq := Lib.hid hq
        clear hcc hcc2 hX hY htk hq hx hy
        go_wp2_with fail
        refine start_ (n := 9) (S := fun w' => World.rangeAt w' b (off + k * 32) (opCells x) ∧ World.rangeAt w' b2 (off2 + k * 32) (opCells y)) (ds := []) #[false, false, false, false, false, false, false, false, false] (by kernel_rfl) rfl rfl ⟨r1, r2⟩ (fun hHeld => ?_)
        generalize wr.drew = W at r1 r2 HBd hHeld ⊢
        refine pure_ (i := 0) (N := some 17) (v := ?_) (a' := ?_) #[true, false, false, false, false, false, false, false, false] rfl rfl (by kernel_rfl) (fun _ _ _ h => h) (Or.inl ⟨by rfl, ?_⟩) ?_ ?_
        rotate_left
        · intro w'
          go_simp
          with_reducible rfl
        rotate_left
        · simp only [Act.put, List.setIfInBounds_toArray, List.set_cons_zero, List.set_cons_succ]
          rfl
        refine pure_ (i := 1) (N := some 18) (v := ?_) (a' := ?_) #[true, true, false, false, false, false, false, false, false] rfl rfl (by kernel_rfl) (fun _ _ _ h => h) (Or.inl ⟨by rfl, ?_⟩) ?_ ?_
        rotate_left
        · intro w'
          go_simp
          with_reducible rfl
        rotate_left
        · simp only [Act.put, List.setIfInBounds_toArray, List.set_cons_zero, List.set_cons_succ]
          rfl
        refine pure_ (i := 2) (N := some 19) (v := ?_) (a' := ?_) #[true, true, true, false, false, false, false, false, false] rfl rfl (by kernel_rfl) (fun _ _ _ h => h) (Or.inl ⟨by rfl, ?_⟩) ?_ ?_
        rotate_left
        · intro w'
          go_simp
          with_reducible rfl
        rotate_left
        · simp only [Act.put, List.setIfInBounds_toArray, List.set_cons_zero, List.set_cons_succ]
          rfl
        refine take_ (i := 3) (N := some 20) (v := .agg (opCells x).toArray) (a' := ?_) #[true, true, true, true, false, false, false, false, false] rfl rfl (by kernel_rfl) (fun _ _ _ h => h) (yieldsIf_load_mid (by rfl) 82 (.tmp 19) rfl b (off + k * 32) rfl (opCells x) _ (fun _ h => h.1) Try.underlying82 rfl (by kernel_rfl)) hHeld ?_ ?_
        rotate_left
        · simp only [Act.put, List.setIfInBounds_toArray, List.set_cons_zero, List.set_cons_succ]
          rfl
        refine pure_ (i := 4) (N := some 21) (v := ?_) (a' := ?_) #[true, true, true, true, true, false, false, false, false] rfl rfl (by kernel_rfl) (fun _ _ _ h => h) (Or.inl ⟨by rfl, ?_⟩) ?_ ?_
        rotate_left
        · intro w'
          go_simp
          with_reducible rfl
        rotate_left
        · simp only [Act.put, List.setIfInBounds_toArray, List.set_cons_zero, List.set_cons_succ]
          rfl
        refine pure_ (i := 5) (N := some 22) (v := ?_) (a' := ?_) #[true, true, true, true, true, true, false, false, false] rfl rfl (by kernel_rfl) (fun _ _ _ h => h) (Or.inl ⟨by rfl, ?_⟩) ?_ ?_
        rotate_left
        · intro w'
          go_simp
          with_reducible rfl
        rotate_left
        · simp only [Act.put, List.setIfInBounds_toArray, List.set_cons_zero, List.set_cons_succ]
          rfl
        refine pure_ (i := 6) (N := some 23) (v := ?_) (a' := ?_) #[true, true, true, true, true, true, true, false, false] rfl rfl (by kernel_rfl) (fun _ _ _ h => h) (Or.inl ⟨by rfl, ?_⟩) ?_ ?_
        rotate_left
        · intro w'
          go_simp
          with_reducible rfl
        rotate_left
        · simp only [Act.put, List.setIfInBounds_toArray, List.set_cons_zero, List.set_cons_succ]
          rfl
        refine take_ (i := 7) (N := some 24) (v := .agg (opCells y).toArray) (a' := ?_) #[true, true, true, true, true, true, true, true, false] rfl rfl (by kernel_rfl) (fun _ _ _ h => h) (yieldsIf_load_mid (by rfl) 82 (.tmp 23) rfl b2 (off2 + k * 32) rfl (opCells y) _ (fun _ h => h.2) Try.underlying82 rfl (by kernel_rfl)) hHeld ?_ ?_
        rotate_left
        · simp only [Act.put, List.setIfInBounds_toArray, List.set_cons_zero, List.set_cons_succ]
          rfl
        refine pure_ (i := 8) (N := some 25) (v := ?_) (a' := ?_) #[true, true, true, true, true, true, true, true, true] rfl rfl (by kernel_rfl) (fun _ _ _ h => h) (Or.inl ⟨by rfl, ?_⟩) ?_ ?_
        rotate_left
        · intro w'
          go_simp
          with_reducible rfl
        rotate_left
        · simp only [Act.put, List.setIfInBounds_toArray, List.set_cons_zero, List.set_cons_succ]
          rfl
        refine done_ (by kernel_rfl) ?_
        cases q
        · go_wp2
          go_ret
          exact ⟨by rw [decide_eq_false (Hno.out (of_decide_eq_false Hq.out))]; rfl, HBd⟩
        · go_wp2
          exact ⟨⟨k + 1, by omega, by go_num, Hyes.out (of_decide_eq_true Hq.out), HBd⟩, by simp [intOf] <;> omega⟩
      · have hkn : n = k := by omega
        subst hkn
        rw [List.take_of_length_le (by omega), List.take_of_length_le (by omega)] at htk
        go_wp2
        go_ret
        exact ⟨by rw [decide_eq_true htk]; rfl, HB⟩
  · have hni : ¬ (n : Int) = (m : Int) := by omega
    have hnb : ((n : Int) != (m : Int)) = true := bne_iff_ne.2 hni
    go_enter Try.func27, Try.ntmps27
    go_wp2
    go_ret
    exact ⟨by rw [decide_eq_false (fun e => hnm (by rw [← hxl, ← hyl, e]))]; rfl, Below.refl _ _⟩
end Go.Proofs.Ytakajahogjeiaab.Wk
