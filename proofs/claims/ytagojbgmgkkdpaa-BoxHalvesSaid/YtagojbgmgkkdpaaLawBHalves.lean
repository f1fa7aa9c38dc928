/- Walk: peloruslaw14.BoxHalves returns true, for every input. -/
import Derived.Test.YtagojbgmgkkdpaaAw14
namespace Go.Proofs.Ytagojbgmgkkdpaa.Wk
open Go.RowKit Go.Proofs.Pl Go.Proofs.YtagojbgmgkkdpaaW.PrintLast
set_option linter.unusedSimpArgs false
set_option linter.unusedVariables false

/-- the nine cells of an interval -/
def C9 (W : World) (b o : Nat) (x : Iv) : Prop := W.cell? ⟨b, o, none⟩ = some (.bool x.emp) ∧ W.cell? ⟨b, o + 1, none⟩ = some (.int .i64 x.lo.k) ∧ W.cell? ⟨b, o + 2, none⟩ = some (.bool x.lo.n) ∧ W.cell? ⟨b, o + 3, none⟩ = some (.int .u64 x.lo.m) ∧ W.cell? ⟨b, o + 4, none⟩ = some (.int .i64 x.lo.e) ∧ W.cell? ⟨b, o + 5, none⟩ = some (.int .i64 x.hi.k) ∧ W.cell? ⟨b, o + 6, none⟩ = some (.bool x.hi.n) ∧ W.cell? ⟨b, o + 7, none⟩ = some (.int .u64 x.hi.m) ∧ W.cell? ⟨b, o + 8, none⟩ = some (.int .i64 x.hi.e)
theorem C9.same {W W' : World} {b o : Nat} {x : Iv} (h : C9 W b o x) (hc : ∀ k, W'.cell? ⟨b, k, none⟩ = W.cell? ⟨b, k, none⟩) : C9 W' b o x := by
  unfold C9 at h ⊢
  simp only [hc]
  exact h
theorem C9.call {W W' : World} {b o : Nat} {x : Iv} (h : C9 W b o x) (hb : Below W.heap.size W W') (hl : b < W.heap.size) : C9 W' b o x := h.same fun k => hb.cell (p := ⟨b, k, none⟩) hl
theorem C9.drew {W : World} {b o : Nat} {x : Iv} (h : C9 W b o x) : C9 W.drew b o x := h
theorem SlI.c9 {w : World} {B n : Nat} {A : Option Addr} {xs : List Iv} (h : SlI w B A n xs) {k : Nat} (hk : k < n) : ∃ b off, A = some ⟨b, off, none⟩ ∧ b < B ∧ xs[k]? = some (ivAt xs k) ∧ C9 w b (off + k * 9) (ivAt xs k) := by
  obtain ⟨b, off, x, e, hb, hx, h9⟩ := h.at_ hk
  rw [ivAt_of hx]
  exact ⟨b, off, e, hb, hx, h9⟩
set_option maxRecDepth 100000 in
set_option maxHeartbeats 16000000 in
theorem boxHalves_calls (A : Option Addr) (n c : Nat) (xs : List Iv) (w : World) (hs : SlI w w.heap.size A n xs) (wx : ∀ x ∈ xs, WfIv x) :
    Calls Try.prog 7 #[.slice A n c] w fun e w' => e = .returned (.bool true) ∧ Below w.heap.size w w' := by
  have HB0 := Below.refl w.heap.size w
  have HWD := Lib.hid (fun W h (hn : n ≤ 1000) => widestB_calls A n c xs W h wx hn)
  have HE := Lib.hid (fun W h (hn : n ≤ 1000) => emptyB_calls A n c xs W h hn)
  by_cases h1 : 20 < n
  · clear wx HWD HE
    go_enter Try.func7, Try.ntmps7
    go_wp2_with (first
      | (go_at_call 32; (refine (awake14_calls _).mono ?_); rintro e' w1 ⟨rfl, hb⟩; have HB1 := bl_trans HB0 hb; clear hb)
      | (go_at_call 46; (refine (HWD.out w1 (hs.on HB1)).mono ?_); rintro e' w2 ⟨rfl, hb⟩; have HB2 := bl_trans HB1 hb; clear hb)
      | (go_at_call 40; (refine (HE.out w2 (hs.on HB2)).mono ?_); rintro e' w3 ⟨rfl, hb⟩; have HB3 := bl_trans HB2 hb; clear hb))
    go_ret
    exact ⟨rfl, by first | exact HB3 | exact HB1⟩
  replace HWD := Lib.hid (fun W h => HWD.out W h (by omega))
  replace HE := Lib.hid (fun W h => HE.out W h (by omega))
  by_cases h2 : widestB xs < 0
  · have hwn := widest_neg xs h2
    rw [hs.1] at hwn
    have Hwn := Lib.hid hwn
    clear wx hwn
    generalize widestB xs = r at HWD h2
    generalize emptyB xs = p at HE Hwn
    cases p
    · have h0 : n = 0 := by simpa using Hwn.out
      subst h0
      clear Hwn
      go_enter Try.func7, Try.ntmps7
      go_wp2_with (first
        | (go_at_call 32; (refine (awake14_calls _).mono ?_); rintro e' w1 ⟨rfl, hb⟩; have HB1 := bl_trans HB0 hb; clear hb)
        | (go_at_call 46; (refine (HWD.out w1 (hs.on HB1)).mono ?_); rintro e' w2 ⟨rfl, hb⟩; have HB2 := bl_trans HB1 hb; clear hb)
        | (go_at_call 40; (refine (HE.out w2 (hs.on HB2)).mono ?_); rintro e' w3 ⟨rfl, hb⟩; have HB3 := bl_trans HB2 hb; clear hb))
      go_ret
      exact ⟨rfl, by first | exact HB3 | exact HB1⟩
    · clear Hwn
      go_enter Try.func7, Try.ntmps7
      go_wp2_with (first
        | (go_at_call 32; (refine (awake14_calls _).mono ?_); rintro e' w1 ⟨rfl, hb⟩; have HB1 := bl_trans HB0 hb; clear hb)
        | (go_at_call 46; (refine (HWD.out w1 (hs.on HB1)).mono ?_); rintro e' w2 ⟨rfl, hb⟩; have HB2 := bl_trans HB1 hb; clear hb)
        | (go_at_call 40; (refine (HE.out w2 (hs.on HB2)).mono ?_); rintro e' w3 ⟨rfl, hb⟩; have HB3 := bl_trans HB2 hb; clear hb))
      go_ret
      exact ⟨rfl, by first | exact HB3 | exact HB1⟩
  obtain ⟨k, hk⟩ := Int.eq_ofNat_of_zero_le (show 0 ≤ widestB xs by omega)
  obtain ⟨L0, L1, L2, L3, L4, L5, L6, L7, L8⟩ := law_boxhalves xs wx k hk
  rw [hs.1] at L0 L1 L2
  rw [hk] at HWD
  have HSP := Lib.hid (fun W h => splitB_calls A n c k xs W h wx (by omega) L0)
  have wz := at_wf wx k
  obtain ⟨b, off, rfl, hbB, hx0, C0⟩ := hs.c9 L0
  have HM := Lib.hid (fun W => let z := ivAt xs k; midI_calls z.emp z.lo.k z.lo.n z.lo.m z.lo.e z.hi.k z.hi.n z.hi.m z.hi.e wz W)
  have HW1 := Lib.hid (fun W => let x := ivAt (halfA xs k) k; let z := ivAt xs k; withinI_calls x.emp x.lo.k x.lo.n x.lo.m x.lo.e x.hi.k x.hi.n x.hi.m x.hi.e z.emp z.lo.k z.lo.n z.lo.m z.lo.e z.hi.k z.hi.n z.hi.m z.hi.e W)
  have HW2 := Lib.hid (fun W => let x := ivAt (halfB xs k) k; let z := ivAt xs k; withinI_calls x.emp x.lo.k x.lo.n x.lo.m x.lo.e x.hi.k x.hi.n x.hi.m x.hi.e z.emp z.lo.k z.lo.n z.lo.m z.lo.e z.hi.k z.hi.n z.hi.m z.hi.e W)
  have HU := Lib.hid (fun A W (h : SlI W W.heap.size A 2 [ivAt (halfA xs k) k, ivAt (halfB xs k) k]) => hullI_calls A 2 2 _ W h (by omega))
  rw [L8] at HU
  dsimp only at HM HW1 HW2
  change Hid (∀ W, Calls _ _ _ W fun e w' => e = .returned (.bool (withinI (ivAt (halfA xs k) k) (ivAt xs k))) ∧ _) at HW1
  change Hid (∀ W, Calls _ _ _ W fun e w' => e = .returned (.bool (withinI (ivAt (halfB xs k) k) (ivAt xs k))) ∧ _) at HW2
  change Hid (∀ W, Calls _ _ _ W fun e w' => e = .returned (.agg #[.int .i64 (midI (ivAt xs k)).k, .bool (midI (ivAt xs k)).n, .int .u64 (midI (ivAt xs k)).m, .int .i64 (midI (ivAt xs k)).e]) ∧ _) at HM
  rw [L6] at HW1
  rw [L7] at HW2
  have C0' := Lib.hid C0
  have L5' := Lib.hid L5
  have S := Lib.hid hs
  have h2' : ¬ (k : Int) < 0 := by omega
  have hkk : ((k : Int) != k) = false := by simp
  have hnn : ((n : Int) != n) = false := by simp
  clear hs wx wz L1 L2 L5 L6 L7 L8 hk h2 hx0 C0
  have SX := Lib.hid (fun W A (h : SlI W W.heap.size A n (halfA xs k)) => h.c9 L0)
  have SY := Lib.hid (fun W A (h : SlI W W.heap.size A n (halfB xs k)) => h.c9 L0)
  generalize ivAt (halfA xs k) k = x at SX HW1 HU L3
  generalize ivAt (halfB xs k) k = y at SY HW2 HU L4
  have C0'' := Lib.hid (fun W hb => C0'.out.same (W' := W) hb)
  clear C0'
  generalize hz : ivAt xs k = z at C0'' HW1 HW2 HU HM L3 L4
  clear hz
  generalize midI z = m at HM L3 L4
  obtain ⟨x0, ⟨x1, x2, x3, x4⟩, ⟨x5, x6, x7, x8⟩⟩ := x
  obtain ⟨y0, ⟨y1, y2, y3, y4⟩, ⟨y5, y6, y7, y8⟩⟩ := y
  obtain ⟨z0, ⟨z1, z2, z3, z4⟩, ⟨z5, z6, z7, z8⟩⟩ := z
  obtain ⟨m0, m1, m2, m3⟩ := m
  dsimp only at HM HW1 HW2 HU
  have e1 : ∀ W, (binOp .neq 24 (.agg #[.int .i64 x5, .bool x6, .int .u64 x7, .int .i64 x8]) (.agg #[.int .i64 m0, .bool m1, .int .u64 m2, .int .i64 m3])).run Try.prog W = .ok (.bool false) W := fun W => by rw [run_neNum, decide_eq_true L3]; rfl
  have e2 : ∀ W, (binOp .neq 24 (.agg #[.int .i64 y1, .bool y2, .int .u64 y3, .int .i64 y4]) (.agg #[.int .i64 m0, .bool m1, .int .u64 m2, .int .i64 m3])).run Try.prog W = .ok (.bool false) W := fun W => by rw [run_neNum, decide_eq_true L4]; rfl
  have e3 := fun W => run_eqIv W z0 z0 z1 z1 z2 z2 z3 z3 z4 z4 z5 z5 z6 z6 z7 z7 z8 z8
  rw [decide_eq_true rfl] at e3
  clear L3 L4
  go_enter Try.func7, Try.ntmps7
  go_wp2_with (first
    | (go_at_call 32; (refine (awake14_calls _).mono ?_); rintro e' w1 ⟨rfl, hb⟩; have HB1 := bl_trans HB0 hb; clear hb)
    | (go_at_call 46; (refine (HWD.out w1 (S.out.on HB1)).mono ?_); rintro e' w2 ⟨rfl, hb⟩; have HB2 := bl_trans HB1 hb; clear hb)
    | (go_at_call 47; (refine (HSP.out w2 (S.out.on HB2)).mono ?_); rintro e' w3 ⟨A1, c1, A2, c2, rfl, S1, S2, hb⟩; have HB3 := bl_trans HB2 hb
       obtain ⟨b1, o1, rfl, hb1, _, X3⟩ := SX.out _ _ S1
       obtain ⟨b2, o2, rfl, hb2, _, Y3⟩ := SY.out _ _ S2
       have B3 := C0''.out w3 (fun k => HB3.cell (p := ⟨b, k, none⟩) hbB)
       have hb3 : b < w3.heap.size := Nat.lt_of_lt_of_le hbB HB3.size
       obtain ⟨q0, q1, q2, q3, q4, q5, q6, q7, q8⟩ := B3
       have B3 := Lib.hid (C0''.out w3 (fun k => HB3.cell (p := ⟨b, k, none⟩) hbB))
       have X3 := Lib.hid X3
       have Y3 := Lib.hid Y3
       have S1 := Lib.hid S1
       have S2 := Lib.hid S2
       clear hb)
    | (go_at_call 19; (refine (HM.out _).mono ?_); rintro e' w4 ⟨rfl, hb⟩; have HB4 := bl_trans HB3 hb; have X4 := Lib.hid (X3.out.call hb hb1); have Y4 := Lib.hid (Y3.out.call hb hb2); have B4 := Lib.hid (B3.out.call hb hb3); have T1 := Lib.hid (S1.out.on hb); have T2 := Lib.hid (S2.out.on hb); have hl1 := Nat.lt_of_lt_of_le hb1 hb.size; have hl2 := Nat.lt_of_lt_of_le hb2 hb.size; have hl3 := Nat.lt_of_lt_of_le hb3 hb.size; clear hb q0 q1 q2 q3 q4 q5 q6 q7 q8)
    | (refine wpList_stG rfl 24 (.tmp 7) (.tmp 39) rfl w4.heap.size _ #[.int .i64 m0, .bool m1, .int .u64 m2, .int .i64 m3] (Blk.new w4 _ _) rfl rfl (by kernel_rfl) rfl (by simp [Value.oneCell']) ?_; intro W9 M9 P9))
  have hp9 := below_put P9
  have HB10 := bl_drew (bl_trans HB4 hp9)
  have X10 := (X4.out.call hp9 hl1).drew
  have Y10 := (Y4.out.call hp9 hl2).drew
  have B10 := (B4.out.call hp9 hl3).drew
  have M10 := M9.drew
  have T1 := Lib.hid (T1.out.on (bl_drew hp9))
  have T2 := Lib.hid (T2.out.on (bl_drew hp9))
  have hl1 := Nat.lt_of_lt_of_le hl1 (bl_drew hp9).size
  have hl2 := Nat.lt_of_lt_of_le hl2 (bl_drew hp9).size
  have hl3 := Nat.lt_of_lt_of_le hl3 (bl_drew hp9).size
  clear hp9 P9 M9
  dsimp only [C9] at X10 Y10 B10
  refine start_ (n := 30) (S := fun w' => w'.cell? ⟨b1, o1 + k * 9, none⟩ = some (.bool x0) ∧ w'.cell? ⟨b1, o1 + k * 9 + 1, none⟩ = some (.int .i64 x1) ∧ w'.cell? ⟨b1, o1 + k * 9 + 2, none⟩ = some (.bool x2) ∧ w'.cell? ⟨b1, o1 + k * 9 + 3, none⟩ = some (.int .u64 x3) ∧ w'.cell? ⟨b1, o1 + k * 9 + 4, none⟩ = some (.int .i64 x4) ∧ w'.cell? ⟨b1, o1 + k * 9 + 5, none⟩ = some (.int .i64 x5) ∧ w'.cell? ⟨b1, o1 + k * 9 + 6, none⟩ = some (.bool x6) ∧ w'.cell? ⟨b1, o1 + k * 9 + 7, none⟩ = some (.int .u64 x7) ∧ w'.cell? ⟨b1, o1 + k * 9 + 8, none⟩ = some (.int .i64 x8) ∧ w'.cell? ⟨b2, o2 + k * 9, none⟩ = some (.bool y0) ∧ w'.cell? ⟨b2, o2 + k * 9 + 1, none⟩ = some (.int .i64 y1) ∧ w'.cell? ⟨b2, o2 + k * 9 + 2, none⟩ = some (.bool y2) ∧ w'.cell? ⟨b2, o2 + k * 9 + 3, none⟩ = some (.int .u64 y3) ∧ w'.cell? ⟨b2, o2 + k * 9 + 4, none⟩ = some (.int .i64 y4) ∧ w'.cell? ⟨b2, o2 + k * 9 + 5, none⟩ = some (.int .i64 y5) ∧ w'.cell? ⟨b2, o2 + k * 9 + 6, none⟩ = some (.bool y6) ∧ w'.cell? ⟨b2, o2 + k * 9 + 7, none⟩ = some (.int .u64 y7) ∧ w'.cell? ⟨b2, o2 + k * 9 + 8, none⟩ = some (.int .i64 y8) ∧ w'.cell? ⟨w4.heap.size, 0, none⟩ = some (.int .i64 m0) ∧ w'.cell? ⟨w4.heap.size, 1, none⟩ = some (.bool m1) ∧ w'.cell? ⟨w4.heap.size, 2, none⟩ = some (.int .u64 m2) ∧ w'.cell? ⟨w4.heap.size, 3, none⟩ = some (.int .i64 m3)) (ds := []) #[false, false, false, false, false, false, false, false, false, false, false, false, false, false, false, false, false, false, false, false, false, false, false, false, false, false, false, false, false, false] (by kernel_rfl) rfl rfl ⟨X10.1, X10.2.1, X10.2.2.1, X10.2.2.2.1, X10.2.2.2.2.1, X10.2.2.2.2.2.1, X10.2.2.2.2.2.2.1, X10.2.2.2.2.2.2.2.1, X10.2.2.2.2.2.2.2.2, Y10.1, Y10.2.1, Y10.2.2.1, Y10.2.2.2.1, Y10.2.2.2.2.1, Y10.2.2.2.2.2.1, Y10.2.2.2.2.2.2.1, Y10.2.2.2.2.2.2.2.1, Y10.2.2.2.2.2.2.2.2, M10.cell 0, M10.cell 1, M10.cell 2, M10.cell 3⟩ (fun hHeld => ?_)
  skip
  refine pure_ (i := 0) (N := some 40) (v := ?_) (a' := ?_) #[true, false, false, false, false, false, false, false, false, false, false, false, false, false, false, false, false, false, false, false, false, false, false, false, false, false, false, false, false, false] rfl rfl (by kernel_rfl) (fun _ _ _ h => h) (Or.inl ⟨by rfl, ?_⟩) ?_ ?_
  rotate_left
  · intro w'
    go_simp
    with_reducible rfl
  rotate_left
  · simp only [Act.put, List.setIfInBounds_toArray, List.set_cons_zero, List.set_cons_succ]
    rfl
  refine pure_ (i := 1) (N := some 41) (v := ?_) (a' := ?_) #[true, true, false, false, false, false, false, false, false, false, false, false, false, false, false, false, false, false, false, false, false, false, false, false, false, false, false, false, false, false] rfl rfl (by kernel_rfl) (fun _ _ _ h => h) (Or.inl ⟨by rfl, ?_⟩) ?_ ?_
  rotate_left
  · intro w'
    go_simp
    with_reducible rfl
  rotate_left
  · simp only [Act.put, List.setIfInBounds_toArray, List.set_cons_zero, List.set_cons_succ]
    rfl
  refine pure_ (i := 2) (N := some 42) (v := ?_) (a' := ?_) #[true, true, true, false, false, false, false, false, false, false, false, false, false, false, false, false, false, false, false, false, false, false, false, false, false, false, false, false, false, false] rfl rfl (by kernel_rfl) (fun _ _ _ h => h) (Or.inl ⟨by rfl, ?_⟩) ?_ ?_
  rotate_left
  · intro w'
    go_simp
    with_reducible rfl
  rotate_left
  · simp only [Act.put, List.setIfInBounds_toArray, List.set_cons_zero, List.set_cons_succ]
    rfl
  refine pure_ (i := 3) (N := some 43) (v := ?_) (a' := ?_) #[true, true, true, true, false, false, false, false, false, false, false, false, false, false, false, false, false, false, false, false, false, false, false, false, false, false, false, false, false, false] rfl rfl (by kernel_rfl) (fun _ _ _ h => h) (Or.inl ⟨by rfl, ?_⟩) ?_ ?_
  rotate_left
  · intro w'
    go_simp
    with_reducible rfl
  rotate_left
  · simp only [Act.put, List.setIfInBounds_toArray, List.set_cons_zero, List.set_cons_succ]
    rfl
  refine pure_ (i := 4) (N := some 44) (v := ?_) (a' := ?_) #[true, true, true, true, true, false, false, false, false, false, false, false, false, false, false, false, false, false, false, false, false, false, false, false, false, false, false, false, false, false] rfl rfl (by kernel_rfl) (fun _ _ _ h => h) (Or.inl ⟨by rfl, ?_⟩) ?_ ?_
  rotate_left
  · intro w'
    go_simp
    with_reducible rfl
  rotate_left
  · simp only [Act.put, List.setIfInBounds_toArray, List.set_cons_zero, List.set_cons_succ]
    rfl
  refine pure_ (i := 5) (N := some 45) (v := ?_) (a' := ?_) #[true, true, true, true, true, true, false, false, false, false, false, false, false, false, false, false, false, false, false, false, false, false, false, false, false, false, false, false, false, false] rfl rfl (by kernel_rfl) (fun _ _ _ h => h) (Or.inl ⟨by rfl, ?_⟩) ?_ ?_
  rotate_left
  · intro w'
    go_simp
    with_reducible rfl
  rotate_left
  · simp only [Act.put, List.setIfInBounds_toArray, List.set_cons_zero, List.set_cons_succ]
    rfl
  refine pure_ (i := 6) (N := some 46) (v := ?_) (a' := ?_) #[true, true, true, true, true, true, true, false, false, false, false, false, false, false, false, false, false, false, false, false, false, false, false, false, false, false, false, false, false, false] rfl rfl (by kernel_rfl) (fun _ _ _ h => h) (Or.inl ⟨by rfl, ?_⟩) ?_ ?_
  rotate_left
  · intro w'
    go_simp
    with_reducible rfl
  rotate_left
  · simp only [Act.put, List.setIfInBounds_toArray, List.set_cons_zero, List.set_cons_succ]
    rfl
  refine pure_ (i := 7) (N := some 47) (v := ?_) (a' := ?_) #[true, true, true, true, true, true, true, true, false, false, false, false, false, false, false, false, false, false, false, false, false, false, false, false, false, false, false, false, false, false] rfl rfl (by kernel_rfl) (fun _ _ _ h => h) (Or.inl ⟨by rfl, ?_⟩) ?_ ?_
  rotate_left
  · intro w'
    go_simp
    with_reducible rfl
  rotate_left
  · simp only [Act.put, List.setIfInBounds_toArray, List.set_cons_zero, List.set_cons_succ]
    rfl
  refine pure_ (i := 8) (N := some 48) (v := ?_) (a' := ?_) #[true, true, true, true, true, true, true, true, true, false, false, false, false, false, false, false, false, false, false, false, false, false, false, false, false, false, false, false, false, false] rfl rfl (by kernel_rfl) (fun _ _ _ h => h) (Or.inl ⟨by rfl, ?_⟩) ?_ ?_
  rotate_left
  · intro w'
    go_simp
    with_reducible rfl
  rotate_left
  · simp only [Act.put, List.setIfInBounds_toArray, List.set_cons_zero, List.set_cons_succ]
    rfl
  refine pure_ (i := 9) (N := some 49) (v := ?_) (a' := ?_) #[true, true, true, true, true, true, true, true, true, true, false, false, false, false, false, false, false, false, false, false, false, false, false, false, false, false, false, false, false, false] rfl rfl (by kernel_rfl) (fun _ _ _ h => h) (Or.inl ⟨by rfl, ?_⟩) ?_ ?_
  rotate_left
  · intro w'
    go_simp
    with_reducible rfl
  rotate_left
  · simp only [Act.put, List.setIfInBounds_toArray, List.set_cons_zero, List.set_cons_succ]
    rfl
  refine pure_ (i := 10) (N := some 50) (v := ?_) (a' := ?_) #[true, true, true, true, true, true, true, true, true, true, true, false, false, false, false, false, false, false, false, false, false, false, false, false, false, false, false, false, false, false] rfl rfl (by kernel_rfl) (fun _ _ _ h => h) (Or.inl ⟨by rfl, ?_⟩) ?_ ?_
  rotate_left
  · intro w'
    go_simp
    with_reducible rfl
  rotate_left
  · simp only [Act.put, List.setIfInBounds_toArray, List.set_cons_zero, List.set_cons_succ]
    rfl
  refine pure_ (i := 11) (N := some 51) (v := ?_) (a' := ?_) #[true, true, true, true, true, true, true, true, true, true, true, true, false, false, false, false, false, false, false, false, false, false, false, false, false, false, false, false, false, false] rfl rfl (by kernel_rfl) (fun _ _ _ h => h) (Or.inl ⟨by rfl, ?_⟩) ?_ ?_
  rotate_left
  · intro w'
    go_simp
    with_reducible rfl
  rotate_left
  · simp only [Act.put, List.setIfInBounds_toArray, List.set_cons_zero, List.set_cons_succ]
    rfl
  refine pure_ (i := 12) (N := some 52) (v := ?_) (a' := ?_) #[true, true, true, true, true, true, true, true, true, true, true, true, true, false, false, false, false, false, false, false, false, false, false, false, false, false, false, false, false, false] rfl rfl (by kernel_rfl) (fun _ _ _ h => h) (Or.inl ⟨by rfl, ?_⟩) ?_ ?_
  rotate_left
  · intro w'
    go_simp
    with_reducible rfl
  rotate_left
  · simp only [Act.put, List.setIfInBounds_toArray, List.set_cons_zero, List.set_cons_succ]
    rfl
  refine pure_ (i := 13) (N := some 53) (v := ?_) (a' := ?_) #[true, true, true, true, true, true, true, true, true, true, true, true, true, true, false, false, false, false, false, false, false, false, false, false, false, false, false, false, false, false] rfl rfl (by kernel_rfl) (fun _ _ _ h => h) (Or.inl ⟨by rfl, ?_⟩) ?_ ?_
  rotate_left
  · intro w'
    go_simp
    with_reducible rfl
  rotate_left
  · simp only [Act.put, List.setIfInBounds_toArray, List.set_cons_zero, List.set_cons_succ]
    rfl
  refine pure_ (i := 14) (N := some 54) (v := ?_) (a' := ?_) #[true, true, true, true, true, true, true, true, true, true, true, true, true, true, true, false, false, false, false, false, false, false, false, false, false, false, false, false, false, false] rfl rfl (by kernel_rfl) (fun _ _ _ h => h) (Or.inl ⟨by rfl, ?_⟩) ?_ ?_
  rotate_left
  · intro w'
    go_simp
    with_reducible rfl
  rotate_left
  · simp only [Act.put, List.setIfInBounds_toArray, List.set_cons_zero, List.set_cons_succ]
    rfl
  refine pure_ (i := 15) (N := some 55) (v := ?_) (a' := ?_) #[true, true, true, true, true, true, true, true, true, true, true, true, true, true, true, true, false, false, false, false, false, false, false, false, false, false, false, false, false, false] rfl rfl (by kernel_rfl) (fun _ _ _ h => h) (Or.inl ⟨by rfl, ?_⟩) ?_ ?_
  rotate_left
  · intro w'
    go_simp
    with_reducible rfl
  rotate_left
  · simp only [Act.put, List.setIfInBounds_toArray, List.set_cons_zero, List.set_cons_succ]
    rfl
  refine pure_ (i := 16) (N := some 56) (v := ?_) (a' := ?_) #[true, true, true, true, true, true, true, true, true, true, true, true, true, true, true, true, true, false, false, false, false, false, false, false, false, false, false, false, false, false] rfl rfl (by kernel_rfl) (fun _ _ _ h => h) (Or.inl ⟨by rfl, ?_⟩) ?_ ?_
  rotate_left
  · intro w'
    go_simp
    with_reducible rfl
  rotate_left
  · simp only [Act.put, List.setIfInBounds_toArray, List.set_cons_zero, List.set_cons_succ]
    rfl
  refine take_ (i := 17) (N := some 57) (v := ?_) (a' := ?_) #[true, true, true, true, true, true, true, true, true, true, true, true, true, true, true, true, true, true, false, false, false, false, false, false, false, false, false, false, false, false] rfl rfl (by kernel_rfl) (fun _ _ _ h => h) (Or.inl ⟨by rfl, ?_⟩) hHeld ?_ ?_
  rotate_left
  · rintro w' ⟨s0_, s1_, s2_, s3_, s4_, s5_, s6_, s7_, s8_, s9_, s10_, s11_, s12_, s13_, s14_, s15_, s16_, s17_, s18_, s19_, s20_, s21_⟩
    go_simp
    with_reducible rfl
  rotate_left
  · simp only [Act.put, List.setIfInBounds_toArray, List.set_cons_zero, List.set_cons_succ]
    rfl
  refine take_ (i := 18) (N := some 58) (v := ?_) (a' := ?_) #[true, true, true, true, true, true, true, true, true, true, true, true, true, true, true, true, true, true, true, false, false, false, false, false, false, false, false, false, false, false] rfl rfl (by kernel_rfl) (fun _ _ _ h => h) (Or.inl ⟨by rfl, ?_⟩) hHeld ?_ ?_
  rotate_left
  · rintro w' ⟨s0_, s1_, s2_, s3_, s4_, s5_, s6_, s7_, s8_, s9_, s10_, s11_, s12_, s13_, s14_, s15_, s16_, s17_, s18_, s19_, s20_, s21_⟩
    go_simp
    with_reducible rfl
  rotate_left
  · simp only [Act.put, List.setIfInBounds_toArray, List.set_cons_zero, List.set_cons_succ]
    rfl
  refine pure_ (i := 19) (N := some 59) (v := ?_) (a' := ?_) #[true, true, true, true, true, true, true, true, true, true, true, true, true, true, true, true, true, true, true, true, false, false, false, false, false, false, false, false, false, false] rfl rfl (by kernel_rfl) (fun _ _ _ h => h) (Or.inl ⟨by rfl, ?_⟩) ?_ ?_
  rotate_left
  · intro w'
    go_simp
    with_reducible rfl
  rotate_left
  · simp only [Act.put, List.setIfInBounds_toArray, List.set_cons_zero, List.set_cons_succ]
    rfl
  refine pure_ (i := 20) (N := some 60) (v := ?_) (a' := ?_) #[true, true, true, true, true, true, true, true, true, true, true, true, true, true, true, true, true, true, true, true, true, false, false, false, false, false, false, false, false, false] rfl rfl (by kernel_rfl) (fun _ _ _ h => h) (Or.inl ⟨by rfl, ?_⟩) ?_ ?_
  rotate_left
  · intro w'
    go_simp
    with_reducible rfl
  rotate_left
  · simp only [Act.put, List.setIfInBounds_toArray, List.set_cons_zero, List.set_cons_succ]
    rfl
  refine pure_ (i := 21) (N := some 61) (v := ?_) (a' := ?_) #[true, true, true, true, true, true, true, true, true, true, true, true, true, true, true, true, true, true, true, true, true, true, false, false, false, false, false, false, false, false] rfl rfl (by kernel_rfl) (fun _ _ _ h => h) (Or.inl ⟨by rfl, ?_⟩) ?_ ?_
  rotate_left
  · intro w'
    go_simp
    with_reducible rfl
  rotate_left
  · simp only [Act.put, List.setIfInBounds_toArray, List.set_cons_zero, List.set_cons_succ]
    rfl
  refine pure_ (i := 22) (N := some 62) (v := ?_) (a' := ?_) #[true, true, true, true, true, true, true, true, true, true, true, true, true, true, true, true, true, true, true, true, true, true, true, false, false, false, false, false, false, false] rfl rfl (by kernel_rfl) (fun _ _ _ h => h) (Or.inl ⟨by rfl, ?_⟩) ?_ ?_
  rotate_left
  · intro w'
    go_simp
    with_reducible rfl
  rotate_left
  · simp only [Act.put, List.setIfInBounds_toArray, List.set_cons_zero, List.set_cons_succ]
    rfl
  refine pure_ (i := 23) (N := some 63) (v := ?_) (a' := ?_) #[true, true, true, true, true, true, true, true, true, true, true, true, true, true, true, true, true, true, true, true, true, true, true, true, false, false, false, false, false, false] rfl rfl (by kernel_rfl) (fun _ _ _ h => h) (Or.inl ⟨by rfl, ?_⟩) ?_ ?_
  rotate_left
  · intro w'
    go_simp
    with_reducible rfl
  rotate_left
  · simp only [Act.put, List.setIfInBounds_toArray, List.set_cons_zero, List.set_cons_succ]
    rfl
  refine pure_ (i := 24) (N := some 64) (v := ?_) (a' := ?_) #[true, true, true, true, true, true, true, true, true, true, true, true, true, true, true, true, true, true, true, true, true, true, true, true, true, false, false, false, false, false] rfl rfl (by kernel_rfl) (fun _ _ _ h => h) (Or.inl ⟨by rfl, ?_⟩) ?_ ?_
  rotate_left
  · intro w'
    go_simp
    with_reducible rfl
  rotate_left
  · simp only [Act.put, List.setIfInBounds_toArray, List.set_cons_zero, List.set_cons_succ]
    rfl
  refine pure_ (i := 25) (N := some 65) (v := ?_) (a' := ?_) #[true, true, true, true, true, true, true, true, true, true, true, true, true, true, true, true, true, true, true, true, true, true, true, true, true, true, false, false, false, false] rfl rfl (by kernel_rfl) (fun _ _ _ h => h) (Or.inl ⟨by rfl, ?_⟩) ?_ ?_
  rotate_left
  · intro w'
    go_simp
    with_reducible rfl
  rotate_left
  · simp only [Act.put, List.setIfInBounds_toArray, List.set_cons_zero, List.set_cons_succ]
    rfl
  refine take_ (i := 26) (N := some 66) (v := ?_) (a' := ?_) #[true, true, true, true, true, true, true, true, true, true, true, true, true, true, true, true, true, true, true, true, true, true, true, true, true, true, true, false, false, false] rfl rfl (by kernel_rfl) (fun _ _ _ h => h) (Or.inl ⟨by rfl, ?_⟩) hHeld ?_ ?_
  rotate_left
  · rintro w' ⟨s0_, s1_, s2_, s3_, s4_, s5_, s6_, s7_, s8_, s9_, s10_, s11_, s12_, s13_, s14_, s15_, s16_, s17_, s18_, s19_, s20_, s21_⟩
    go_simp
    with_reducible rfl
  rotate_left
  · simp only [Act.put, List.setIfInBounds_toArray, List.set_cons_zero, List.set_cons_succ]
    rfl
  refine take_ (i := 27) (N := some 67) (v := ?_) (a' := ?_) #[true, true, true, true, true, true, true, true, true, true, true, true, true, true, true, true, true, true, true, true, true, true, true, true, true, true, true, true, false, false] rfl rfl (by kernel_rfl) (fun _ _ _ h => h) (Or.inl ⟨by rfl, ?_⟩) hHeld ?_ ?_
  rotate_left
  · rintro w' ⟨s0_, s1_, s2_, s3_, s4_, s5_, s6_, s7_, s8_, s9_, s10_, s11_, s12_, s13_, s14_, s15_, s16_, s17_, s18_, s19_, s20_, s21_⟩
    go_simp
    with_reducible rfl
  rotate_left
  · simp only [Act.put, List.setIfInBounds_toArray, List.set_cons_zero, List.set_cons_succ]
    rfl
  refine pure_ (i := 28) (N := some 68) (v := ?_) (a' := ?_) #[true, true, true, true, true, true, true, true, true, true, true, true, true, true, true, true, true, true, true, true, true, true, true, true, true, true, true, true, true, false] rfl rfl (by kernel_rfl) (fun _ _ _ h => h) (Or.inl ⟨by rfl, ?_⟩) ?_ ?_
  rotate_left
  · intro w'
    go_simp
    with_reducible rfl
  rotate_left
  · simp only [Act.put, List.setIfInBounds_toArray, List.set_cons_zero, List.set_cons_succ]
    rfl
  refine pure_ (i := 29) (N := some 69) (v := ?_) (a' := ?_) #[true, true, true, true, true, true, true, true, true, true, true, true, true, true, true, true, true, true, true, true, true, true, true, true, true, true, true, true, true, true] rfl rfl (by kernel_rfl) (fun _ _ _ h => h) (Or.inl ⟨by rfl, ?_⟩) ?_ ?_
  rotate_left
  · intro w'
    go_simp
    with_reducible rfl
  rotate_left
  · simp only [Act.put, List.setIfInBounds_toArray, List.set_cons_zero, List.set_cons_succ]
    rfl
  refine done_ (by kernel_rfl) ?_
  clear hHeld
  have X10 := Lib.hid X10
  have Y10 := Lib.hid Y10
  have B10 := Lib.hid B10
  clear M10
  go_wp2_with fail
  go_loopw [8] (fun i wr => ∃ j : Nat, j ≤ n ∧ i = .int .i64 j ∧ Below W9.drew.heap.size W9.drew wr) (fun i _ => n - (intOf i).toNat)
  case atStart => exact ⟨0, Nat.zero_le _, rfl, Below.refl _ _⟩
  case round =>
    obtain ⟨j, hj, rfl, hbw⟩ := hrel
    have hlr1 := Nat.lt_of_lt_of_le hl1 hbw.size
    have hlr2 := Nat.lt_of_lt_of_le hl2 hbw.size
    have hlr3 := Nat.lt_of_lt_of_le hl3 hbw.size
    by_cases hlt : j < n
    · by_cases hjk : j = k
      · subst hjk
        clear T1 T2 X10 Y10 B10 L5'
        go_wp2_with fail
        refine start_ (n := 25) (S := fun w' => True) (ds := []) #[false, false, false, false, false, false, false, false, false, false, false, false, false, false, false, false, false, false, false, false, false, false, false, false, false] (by kernel_rfl) rfl rfl trivial (fun hHeld => ?_)
        skip
        refine pure_ (i := 0) (N := some 76) (v := ?_) (a' := ?_) #[true, false, false, false, false, false, false, false, false, false, false, false, false, false, false, false, false, false, false, false, false, false, false, false, false] rfl rfl (by kernel_rfl) (fun _ _ _ h => h) (Or.inl ⟨by rfl, ?_⟩) ?_ ?_
        rotate_left
        · intro w'
          go_simp
          with_reducible rfl
        rotate_left
        · simp only [Act.put, List.setIfInBounds_toArray, List.set_cons_zero, List.set_cons_succ]
          rfl
        refine pure_ (i := 1) (N := some 77) (v := ?_) (a' := ?_) #[true, true, false, false, false, false, false, false, false, false, false, false, false, false, false, false, false, false, false, false, false, false, false, false, false] rfl rfl (by kernel_rfl) (fun _ _ _ h => h) (Or.inl ⟨by rfl, ?_⟩) ?_ ?_
        rotate_left
        · intro w'
          go_simp
          with_reducible rfl
        rotate_left
        · simp only [Act.put, List.setIfInBounds_toArray, List.set_cons_zero, List.set_cons_succ]
          rfl
        refine pure_ (i := 2) (N := some 78) (v := ?_) (a' := ?_) #[true, true, true, false, false, false, false, false, false, false, false, false, false, false, false, false, false, false, false, false, false, false, false, false, false] rfl rfl (by kernel_rfl) (fun _ _ _ h => h) (Or.inl ⟨by rfl, ?_⟩) ?_ ?_
        rotate_left
        · intro w'
          go_simp
          with_reducible rfl
        rotate_left
        · simp only [Act.put, List.setIfInBounds_toArray, List.set_cons_zero, List.set_cons_succ]
          rfl
        refine pure_ (i := 3) (N := some 79) (v := ?_) (a' := ?_) #[true, true, true, true, false, false, false, false, false, false, false, false, false, false, false, false, false, false, false, false, false, false, false, false, false] rfl rfl (by kernel_rfl) (fun _ _ _ h => h) (Or.inl ⟨by rfl, ?_⟩) ?_ ?_
        rotate_left
        · intro w'
          go_simp
          with_reducible rfl
        rotate_left
        · simp only [Act.put, List.setIfInBounds_toArray, List.set_cons_zero, List.set_cons_succ]
          rfl
        refine pure_ (i := 4) (N := some 80) (v := undef) (a' := ?_) #[true, true, true, true, true, false, false, false, false, false, false, false, false, false, false, false, false, false, false, false, false, false, false, false, false] rfl rfl (by kernel_rfl) (fun _ _ _ h => h) (Or.inr ⟨by rfl, rfl⟩) ?_ ?_
        rotate_left
        · simp only [Act.put, List.setIfInBounds_toArray, List.set_cons_zero, List.set_cons_succ]
          rfl
        refine pure_ (i := 5) (N := some 81) (v := undef) (a' := ?_) #[true, true, true, true, true, true, false, false, false, false, false, false, false, false, false, false, false, false, false, false, false, false, false, false, false] rfl rfl (by kernel_rfl) (fun _ _ _ h => h) (Or.inr ⟨by rfl, rfl⟩) ?_ ?_
        rotate_left
        · simp only [Act.put, List.setIfInBounds_toArray, List.set_cons_zero, List.set_cons_succ]
          rfl
        refine pure_ (i := 6) (N := some 82) (v := undef) (a' := ?_) #[true, true, true, true, true, true, true, false, false, false, false, false, false, false, false, false, false, false, false, false, false, false, false, false, false] rfl rfl (by kernel_rfl) (fun _ _ _ h => h) (Or.inr ⟨by rfl, rfl⟩) ?_ ?_
        rotate_left
        · simp only [Act.put, List.setIfInBounds_toArray, List.set_cons_zero, List.set_cons_succ]
          rfl
        refine pure_ (i := 7) (N := some 83) (v := undef) (a' := ?_) #[true, true, true, true, true, true, true, true, false, false, false, false, false, false, false, false, false, false, false, false, false, false, false, false, false] rfl rfl (by kernel_rfl) (fun _ _ _ h => h) (Or.inr ⟨by rfl, rfl⟩) ?_ ?_
        rotate_left
        · simp only [Act.put, List.setIfInBounds_toArray, List.set_cons_zero, List.set_cons_succ]
          rfl
        refine pure_ (i := 8) (N := some 84) (v := undef) (a' := ?_) #[true, true, true, true, true, true, true, true, true, false, false, false, false, false, false, false, false, false, false, false, false, false, false, false, false] rfl rfl (by kernel_rfl) (fun _ _ _ h => h) (Or.inr ⟨by rfl, rfl⟩) ?_ ?_
        rotate_left
        · simp only [Act.put, List.setIfInBounds_toArray, List.set_cons_zero, List.set_cons_succ]
          rfl
        refine pure_ (i := 9) (N := some 85) (v := undef) (a' := ?_) #[true, true, true, true, true, true, true, true, true, true, false, false, false, false, false, false, false, false, false, false, false, false, false, false, false] rfl rfl (by kernel_rfl) (fun _ _ _ h => h) (Or.inr ⟨by rfl, rfl⟩) ?_ ?_
        rotate_left
        · simp only [Act.put, List.setIfInBounds_toArray, List.set_cons_zero, List.set_cons_succ]
          rfl
        refine pure_ (i := 10) (N := some 86) (v := undef) (a' := ?_) #[true, true, true, true, true, true, true, true, true, true, true, false, false, false, false, false, false, false, false, false, false, false, false, false, false] rfl rfl (by kernel_rfl) (fun _ _ _ h => h) (Or.inr ⟨by rfl, rfl⟩) ?_ ?_
        rotate_left
        · simp only [Act.put, List.setIfInBounds_toArray, List.set_cons_zero, List.set_cons_succ]
          rfl
        refine pure_ (i := 11) (N := some 87) (v := undef) (a' := ?_) #[true, true, true, true, true, true, true, true, true, true, true, true, false, false, false, false, false, false, false, false, false, false, false, false, false] rfl rfl (by kernel_rfl) (fun _ _ _ h => h) (Or.inr ⟨by rfl, rfl⟩) ?_ ?_
        rotate_left
        · simp only [Act.put, List.setIfInBounds_toArray, List.set_cons_zero, List.set_cons_succ]
          rfl
        refine pure_ (i := 12) (N := some 88) (v := undef) (a' := ?_) #[true, true, true, true, true, true, true, true, true, true, true, true, true, false, false, false, false, false, false, false, false, false, false, false, false] rfl rfl (by kernel_rfl) (fun _ _ _ h => h) (Or.inr ⟨by rfl, rfl⟩) ?_ ?_
        rotate_left
        · simp only [Act.put, List.setIfInBounds_toArray, List.set_cons_zero, List.set_cons_succ]
          rfl
        refine pure_ (i := 13) (N := some 89) (v := undef) (a' := ?_) #[true, true, true, true, true, true, true, true, true, true, true, true, true, true, false, false, false, false, false, false, false, false, false, false, false] rfl rfl (by kernel_rfl) (fun _ _ _ h => h) (Or.inr ⟨by rfl, rfl⟩) ?_ ?_
        rotate_left
        · simp only [Act.put, List.setIfInBounds_toArray, List.set_cons_zero, List.set_cons_succ]
          rfl
        refine pure_ (i := 14) (N := some 90) (v := undef) (a' := ?_) #[true, true, true, true, true, true, true, true, true, true, true, true, true, true, true, false, false, false, false, false, false, false, false, false, false] rfl rfl (by kernel_rfl) (fun _ _ _ h => h) (Or.inr ⟨by rfl, rfl⟩) ?_ ?_
        rotate_left
        · simp only [Act.put, List.setIfInBounds_toArray, List.set_cons_zero, List.set_cons_succ]
          rfl
        refine pure_ (i := 15) (N := some 91) (v := undef) (a' := ?_) #[true, true, true, true, true, true, true, true, true, true, true, true, true, true, true, true, false, false, false, false, false, false, false, false, false] rfl rfl (by kernel_rfl) (fun _ _ _ h => h) (Or.inr ⟨by rfl, rfl⟩) ?_ ?_
        rotate_left
        · simp only [Act.put, List.setIfInBounds_toArray, List.set_cons_zero, List.set_cons_succ]
          rfl
        refine pure_ (i := 16) (N := some 92) (v := undef) (a' := ?_) #[true, true, true, true, true, true, true, true, true, true, true, true, true, true, true, true, true, false, false, false, false, false, false, false, false] rfl rfl (by kernel_rfl) (fun _ _ _ h => h) (Or.inr ⟨by rfl, rfl⟩) ?_ ?_
        rotate_left
        · simp only [Act.put, List.setIfInBounds_toArray, List.set_cons_zero, List.set_cons_succ]
          rfl
        refine pure_ (i := 17) (N := some 93) (v := undef) (a' := ?_) #[true, true, true, true, true, true, true, true, true, true, true, true, true, true, true, true, true, true, false, false, false, false, false, false, false] rfl rfl (by kernel_rfl) (fun _ _ _ h => h) (Or.inr ⟨by rfl, rfl⟩) ?_ ?_
        rotate_left
        · simp only [Act.put, List.setIfInBounds_toArray, List.set_cons_zero, List.set_cons_succ]
          rfl
        refine pure_ (i := 18) (N := some 94) (v := undef) (a' := ?_) #[true, true, true, true, true, true, true, true, true, true, true, true, true, true, true, true, true, true, true, false, false, false, false, false, false] rfl rfl (by kernel_rfl) (fun _ _ _ h => h) (Or.inr ⟨by rfl, rfl⟩) ?_ ?_
        rotate_left
        · simp only [Act.put, List.setIfInBounds_toArray, List.set_cons_zero, List.set_cons_succ]
          rfl
        refine pure_ (i := 19) (N := some 95) (v := undef) (a' := ?_) #[true, true, true, true, true, true, true, true, true, true, true, true, true, true, true, true, true, true, true, true, false, false, false, false, false] rfl rfl (by kernel_rfl) (fun _ _ _ h => h) (Or.inr ⟨by rfl, rfl⟩) ?_ ?_
        rotate_left
        · simp only [Act.put, List.setIfInBounds_toArray, List.set_cons_zero, List.set_cons_succ]
          rfl
        refine pure_ (i := 20) (N := some 96) (v := undef) (a' := ?_) #[true, true, true, true, true, true, true, true, true, true, true, true, true, true, true, true, true, true, true, true, true, false, false, false, false] rfl rfl (by kernel_rfl) (fun _ _ _ h => h) (Or.inr ⟨by rfl, rfl⟩) ?_ ?_
        rotate_left
        · simp only [Act.put, List.setIfInBounds_toArray, List.set_cons_zero, List.set_cons_succ]
          rfl
        refine pure_ (i := 21) (N := some 97) (v := undef) (a' := ?_) #[true, true, true, true, true, true, true, true, true, true, true, true, true, true, true, true, true, true, true, true, true, true, false, false, false] rfl rfl (by kernel_rfl) (fun _ _ _ h => h) (Or.inr ⟨by rfl, rfl⟩) ?_ ?_
        rotate_left
        · simp only [Act.put, List.setIfInBounds_toArray, List.set_cons_zero, List.set_cons_succ]
          rfl
        refine pure_ (i := 22) (N := some 98) (v := undef) (a' := ?_) #[true, true, true, true, true, true, true, true, true, true, true, true, true, true, true, true, true, true, true, true, true, true, true, false, false] rfl rfl (by kernel_rfl) (fun _ _ _ h => h) (Or.inr ⟨by rfl, rfl⟩) ?_ ?_
        rotate_left
        · simp only [Act.put, List.setIfInBounds_toArray, List.set_cons_zero, List.set_cons_succ]
          rfl
        refine pure_ (i := 23) (N := some 99) (v := undef) (a' := ?_) #[true, true, true, true, true, true, true, true, true, true, true, true, true, true, true, true, true, true, true, true, true, true, true, true, false] rfl rfl (by kernel_rfl) (fun _ _ _ h => h) (Or.inr ⟨by rfl, rfl⟩) ?_ ?_
        rotate_left
        · simp only [Act.put, List.setIfInBounds_toArray, List.set_cons_zero, List.set_cons_succ]
          rfl
        refine pure_ (i := 24) (N := some 100) (v := ?_) (a' := ?_) #[true, true, true, true, true, true, true, true, true, true, true, true, true, true, true, true, true, true, true, true, true, true, true, true, true] rfl rfl (by kernel_rfl) (fun _ _ _ h => h) (Or.inl ⟨by rfl, ?_⟩) ?_ ?_
        rotate_left
        · intro w'
          go_simp
          with_reducible rfl
        rotate_left
        · simp only [Act.put, List.setIfInBounds_toArray, List.set_cons_zero, List.set_cons_succ]
          rfl
        refine done_ (by kernel_rfl) ?_
        go_wp2_with fail
        go_roundw
        case rel => exact ⟨j + 1, by omega, by go_num, bl_trans hbw (bl_drew (Below.refl _ _))⟩
        case measure => simp [intOf]; omega
      · have hjn : ((j : Int) != k) = true := by simp; omega
        obtain ⟨u1, u2⟩ := L5'.out j hjk
        obtain ⟨q1, p1, E1, _, _, X11⟩ := (T1.out.on hbw).c9 hlt
        obtain ⟨q2, p2, E2, _, _, Y11⟩ := (T2.out.on hbw).c9 hlt
        obtain ⟨q3, p3, E3, _, _, B11⟩ := (S.out.on (bl_trans HB10 hbw)).c9 hlt
        obtain ⟨rfl, rfl⟩ : b1 = q1 ∧ o1 = p1 := by cases E1; exact ⟨rfl, rfl⟩
        obtain ⟨rfl, rfl⟩ : b2 = q2 ∧ o2 = p2 := by cases E2; exact ⟨rfl, rfl⟩
        obtain ⟨rfl, rfl⟩ : b = q3 ∧ off = p3 := by cases E3; exact ⟨rfl, rfl⟩
        rw [u1] at X11
        rw [u2] at Y11
        clear E1 E2 E3 u1 u2
        generalize ivAt xs j = u at X11 Y11 B11
        clear T1 T2 X10 Y10 B10 L5'
        obtain ⟨u0, ⟨u1, u2, u3, u4⟩, ⟨u5, u6, u7, u8⟩⟩ := u
        have e4 := fun W => run_neIv W u0 u0 u1 u1 u2 u2 u3 u3 u4 u4 u5 u5 u6 u6 u7 u7 u8 u8
        rw [decide_eq_true rfl] at e4
        have X11 := X11.drew
        have Y11 := Y11.drew
        have B11 := B11.drew
        dsimp only [C9] at X11 Y11 B11
        go_wp2_with fail
        refine start_ (n := 25) (S := fun w' => w'.cell? ⟨b1, o1 + j * 9, none⟩ = some (.bool u0) ∧ w'.cell? ⟨b1, o1 + j * 9 + 1, none⟩ = some (.int .i64 u1) ∧ w'.cell? ⟨b1, o1 + j * 9 + 2, none⟩ = some (.bool u2) ∧ w'.cell? ⟨b1, o1 + j * 9 + 3, none⟩ = some (.int .u64 u3) ∧ w'.cell? ⟨b1, o1 + j * 9 + 4, none⟩ = some (.int .i64 u4) ∧ w'.cell? ⟨b1, o1 + j * 9 + 5, none⟩ = some (.int .i64 u5) ∧ w'.cell? ⟨b1, o1 + j * 9 + 6, none⟩ = some (.bool u6) ∧ w'.cell? ⟨b1, o1 + j * 9 + 7, none⟩ = some (.int .u64 u7) ∧ w'.cell? ⟨b1, o1 + j * 9 + 8, none⟩ = some (.int .i64 u8) ∧ w'.cell? ⟨b, off + j * 9, none⟩ = some (.bool u0) ∧ w'.cell? ⟨b, off + j * 9 + 1, none⟩ = some (.int .i64 u1) ∧ w'.cell? ⟨b, off + j * 9 + 2, none⟩ = some (.bool u2) ∧ w'.cell? ⟨b, off + j * 9 + 3, none⟩ = some (.int .u64 u3) ∧ w'.cell? ⟨b, off + j * 9 + 4, none⟩ = some (.int .i64 u4) ∧ w'.cell? ⟨b, off + j * 9 + 5, none⟩ = some (.int .i64 u5) ∧ w'.cell? ⟨b, off + j * 9 + 6, none⟩ = some (.bool u6) ∧ w'.cell? ⟨b, off + j * 9 + 7, none⟩ = some (.int .u64 u7) ∧ w'.cell? ⟨b, off + j * 9 + 8, none⟩ = some (.int .i64 u8) ∧ w'.cell? ⟨b2, o2 + j * 9, none⟩ = some (.bool u0) ∧ w'.cell? ⟨b2, o2 + j * 9 + 1, none⟩ = some (.int .i64 u1) ∧ w'.cell? ⟨b2, o2 + j * 9 + 2, none⟩ = some (.bool u2) ∧ w'.cell? ⟨b2, o2 + j * 9 + 3, none⟩ = some (.int .u64 u3) ∧ w'.cell? ⟨b2, o2 + j * 9 + 4, none⟩ = some (.int .i64 u4) ∧ w'.cell? ⟨b2, o2 + j * 9 + 5, none⟩ = some (.int .i64 u5) ∧ w'.cell? ⟨b2, o2 + j * 9 + 6, none⟩ = some (.bool u6) ∧ w'.cell? ⟨b2, o2 + j * 9 + 7, none⟩ = some (.int .u64 u7) ∧ w'.cell? ⟨b2, o2 + j * 9 + 8, none⟩ = some (.int .i64 u8)) (ds := []) #[false, false, false, false, false, false, false, false, false, false, false, false, false, false, false, false, false, false, false, false, false, false, false, false, false] (by kernel_rfl) rfl rfl ⟨X11.1, X11.2.1, X11.2.2.1, X11.2.2.2.1, X11.2.2.2.2.1, X11.2.2.2.2.2.1, X11.2.2.2.2.2.2.1, X11.2.2.2.2.2.2.2.1, X11.2.2.2.2.2.2.2.2, B11.1, B11.2.1, B11.2.2.1, B11.2.2.2.1, B11.2.2.2.2.1, B11.2.2.2.2.2.1, B11.2.2.2.2.2.2.1, B11.2.2.2.2.2.2.2.1, B11.2.2.2.2.2.2.2.2, Y11.1, Y11.2.1, Y11.2.2.1, Y11.2.2.2.1, Y11.2.2.2.2.1, Y11.2.2.2.2.2.1, Y11.2.2.2.2.2.2.1, Y11.2.2.2.2.2.2.2.1, Y11.2.2.2.2.2.2.2.2⟩ (fun hHeld => ?_)
        skip
        refine pure_ (i := 0) (N := some 76) (v := ?_) (a' := ?_) #[true, false, false, false, false, false, false, false, false, false, false, false, false, false, false, false, false, false, false, false, false, false, false, false, false] rfl rfl (by kernel_rfl) (fun _ _ _ h => h) (Or.inl ⟨by rfl, ?_⟩) ?_ ?_
        rotate_left
        · intro w'
          go_simp
          with_reducible rfl
        rotate_left
        · simp only [Act.put, List.setIfInBounds_toArray, List.set_cons_zero, List.set_cons_succ]
          rfl
        refine pure_ (i := 1) (N := some 77) (v := ?_) (a' := ?_) #[true, true, false, false, false, false, false, false, false, false, false, false, false, false, false, false, false, false, false, false, false, false, false, false, false] rfl rfl (by kernel_rfl) (fun _ _ _ h => h) (Or.inl ⟨by rfl, ?_⟩) ?_ ?_
        rotate_left
        · intro w'
          go_simp
          with_reducible rfl
        rotate_left
        · simp only [Act.put, List.setIfInBounds_toArray, List.set_cons_zero, List.set_cons_succ]
          rfl
        refine pure_ (i := 2) (N := some 78) (v := ?_) (a' := ?_) #[true, true, true, false, false, false, false, false, false, false, false, false, false, false, false, false, false, false, false, false, false, false, false, false, false] rfl rfl (by kernel_rfl) (fun _ _ _ h => h) (Or.inl ⟨by rfl, ?_⟩) ?_ ?_
        rotate_left
        · intro w'
          go_simp
          with_reducible rfl
        rotate_left
        · simp only [Act.put, List.setIfInBounds_toArray, List.set_cons_zero, List.set_cons_succ]
          rfl
        refine pure_ (i := 3) (N := some 79) (v := ?_) (a' := ?_) #[true, true, true, true, false, false, false, false, false, false, false, false, false, false, false, false, false, false, false, false, false, false, false, false, false] rfl rfl (by kernel_rfl) (fun _ _ _ h => h) (Or.inl ⟨by rfl, ?_⟩) ?_ ?_
        rotate_left
        · intro w'
          go_simp
          with_reducible rfl
        rotate_left
        · simp only [Act.put, List.setIfInBounds_toArray, List.set_cons_zero, List.set_cons_succ]
          rfl
        refine pure_ (i := 4) (N := some 80) (v := ?_) (a' := ?_) #[true, true, true, true, true, false, false, false, false, false, false, false, false, false, false, false, false, false, false, false, false, false, false, false, false] rfl rfl (by kernel_rfl) (fun _ _ _ h => h) (Or.inl ⟨by rfl, ?_⟩) ?_ ?_
        rotate_left
        · intro w'
          go_simp
          with_reducible rfl
        rotate_left
        · simp only [Act.put, List.setIfInBounds_toArray, List.set_cons_zero, List.set_cons_succ]
          rfl
        refine pure_ (i := 5) (N := some 81) (v := ?_) (a' := ?_) #[true, true, true, true, true, true, false, false, false, false, false, false, false, false, false, false, false, false, false, false, false, false, false, false, false] rfl rfl (by kernel_rfl) (fun _ _ _ h => h) (Or.inl ⟨by rfl, ?_⟩) ?_ ?_
        rotate_left
        · intro w'
          go_simp
          with_reducible rfl
        rotate_left
        · simp only [Act.put, List.setIfInBounds_toArray, List.set_cons_zero, List.set_cons_succ]
          rfl
        refine pure_ (i := 6) (N := some 82) (v := ?_) (a' := ?_) #[true, true, true, true, true, true, true, false, false, false, false, false, false, false, false, false, false, false, false, false, false, false, false, false, false] rfl rfl (by kernel_rfl) (fun _ _ _ h => h) (Or.inl ⟨by rfl, ?_⟩) ?_ ?_
        rotate_left
        · intro w'
          go_simp
          with_reducible rfl
        rotate_left
        · simp only [Act.put, List.setIfInBounds_toArray, List.set_cons_zero, List.set_cons_succ]
          rfl
        refine take_ (i := 7) (N := some 83) (v := ?_) (a' := ?_) #[true, true, true, true, true, true, true, true, false, false, false, false, false, false, false, false, false, false, false, false, false, false, false, false, false] rfl rfl (by kernel_rfl) (fun _ _ _ h => h) (Or.inl ⟨by rfl, ?_⟩) hHeld ?_ ?_
        rotate_left
        · rintro w' ⟨⟩
          go_simp
          with_reducible rfl
        rotate_left
        · simp only [Act.put, List.setIfInBounds_toArray, List.set_cons_zero, List.set_cons_succ]
          rfl
        refine pure_ (i := 8) (N := some 84) (v := ?_) (a' := ?_) #[true, true, true, true, true, true, true, true, true, false, false, false, false, false, false, false, false, false, false, false, false, false, false, false, false] rfl rfl (by kernel_rfl) (fun _ _ _ h => h) (Or.inl ⟨by rfl, ?_⟩) ?_ ?_
        rotate_left
        · intro w'
          go_simp
          with_reducible rfl
        rotate_left
        · simp only [Act.put, List.setIfInBounds_toArray, List.set_cons_zero, List.set_cons_succ]
          rfl
        refine pure_ (i := 9) (N := some 85) (v := ?_) (a' := ?_) #[true, true, true, true, true, true, true, true, true, true, false, false, false, false, false, false, false, false, false, false, false, false, false, false, false] rfl rfl (by kernel_rfl) (fun _ _ _ h => h) (Or.inl ⟨by rfl, ?_⟩) ?_ ?_
        rotate_left
        · intro w'
          go_simp
          with_reducible rfl
        rotate_left
        · simp only [Act.put, List.setIfInBounds_toArray, List.set_cons_zero, List.set_cons_succ]
          rfl
        refine pure_ (i := 10) (N := some 86) (v := ?_) (a' := ?_) #[true, true, true, true, true, true, true, true, true, true, true, false, false, false, false, false, false, false, false, false, false, false, false, false, false] rfl rfl (by kernel_rfl) (fun _ _ _ h => h) (Or.inl ⟨by rfl, ?_⟩) ?_ ?_
        rotate_left
        · intro w'
          go_simp
          with_reducible rfl
        rotate_left
        · simp only [Act.put, List.setIfInBounds_toArray, List.set_cons_zero, List.set_cons_succ]
          rfl
        refine take_ (i := 11) (N := some 87) (v := ?_) (a' := ?_) #[true, true, true, true, true, true, true, true, true, true, true, true, false, false, false, false, false, false, false, false, false, false, false, false, false] rfl rfl (by kernel_rfl) (fun _ _ _ h => h) (Or.inl ⟨by rfl, ?_⟩) hHeld ?_ ?_
        rotate_left
        · rintro w' ⟨⟩
          go_simp
          with_reducible rfl
        rotate_left
        · simp only [Act.put, List.setIfInBounds_toArray, List.set_cons_zero, List.set_cons_succ]
          rfl
        refine pure_ (i := 12) (N := some 88) (v := ?_) (a' := ?_) #[true, true, true, true, true, true, true, true, true, true, true, true, true, false, false, false, false, false, false, false, false, false, false, false, false] rfl rfl (by kernel_rfl) (fun _ _ _ h => h) (Or.inl ⟨by rfl, ?_⟩) ?_ ?_
        rotate_left
        · intro w'
          go_simp
          with_reducible rfl
        rotate_left
        · simp only [Act.put, List.setIfInBounds_toArray, List.set_cons_zero, List.set_cons_succ]
          rfl
        refine pure_ (i := 13) (N := some 89) (v := ?_) (a' := ?_) #[true, true, true, true, true, true, true, true, true, true, true, true, true, true, false, false, false, false, false, false, false, false, false, false, false] rfl rfl (by kernel_rfl) (fun _ _ _ h => h) (Or.inl ⟨by rfl, ?_⟩) ?_ ?_
        rotate_left
        · intro w'
          go_simp
          with_reducible rfl
        rotate_left
        · simp only [Act.put, List.setIfInBounds_toArray, List.set_cons_zero, List.set_cons_succ]
          rfl
        refine pure_ (i := 14) (N := some 90) (v := ?_) (a' := ?_) #[true, true, true, true, true, true, true, true, true, true, true, true, true, true, true, false, false, false, false, false, false, false, false, false, false] rfl rfl (by kernel_rfl) (fun _ _ _ h => h) (Or.inl ⟨by rfl, ?_⟩) ?_ ?_
        rotate_left
        · intro w'
          go_simp
          with_reducible rfl
        rotate_left
        · simp only [Act.put, List.setIfInBounds_toArray, List.set_cons_zero, List.set_cons_succ]
          rfl
        refine pure_ (i := 15) (N := some 91) (v := ?_) (a' := ?_) #[true, true, true, true, true, true, true, true, true, true, true, true, true, true, true, true, false, false, false, false, false, false, false, false, false] rfl rfl (by kernel_rfl) (fun _ _ _ h => h) (Or.inl ⟨by rfl, ?_⟩) ?_ ?_
        rotate_left
        · intro w'
          go_simp
          with_reducible rfl
        rotate_left
        · simp only [Act.put, List.setIfInBounds_toArray, List.set_cons_zero, List.set_cons_succ]
          rfl
        refine pure_ (i := 16) (N := some 92) (v := ?_) (a' := ?_) #[true, true, true, true, true, true, true, true, true, true, true, true, true, true, true, true, true, false, false, false, false, false, false, false, false] rfl rfl (by kernel_rfl) (fun _ _ _ h => h) (Or.inl ⟨by rfl, ?_⟩) ?_ ?_
        rotate_left
        · intro w'
          go_simp
          with_reducible rfl
        rotate_left
        · simp only [Act.put, List.setIfInBounds_toArray, List.set_cons_zero, List.set_cons_succ]
          rfl
        refine take_ (i := 17) (N := some 93) (v := ?_) (a' := ?_) #[true, true, true, true, true, true, true, true, true, true, true, true, true, true, true, true, true, true, false, false, false, false, false, false, false] rfl rfl (by kernel_rfl) (fun _ _ _ h => h) (Or.inl ⟨by rfl, ?_⟩) hHeld ?_ ?_
        rotate_left
        · rintro w' ⟨⟩
          go_simp
          with_reducible rfl
        rotate_left
        · simp only [Act.put, List.setIfInBounds_toArray, List.set_cons_zero, List.set_cons_succ]
          rfl
        refine pure_ (i := 18) (N := some 94) (v := ?_) (a' := ?_) #[true, true, true, true, true, true, true, true, true, true, true, true, true, true, true, true, true, true, true, false, false, false, false, false, false] rfl rfl (by kernel_rfl) (fun _ _ _ h => h) (Or.inl ⟨by rfl, ?_⟩) ?_ ?_
        rotate_left
        · intro w'
          go_simp
          with_reducible rfl
        rotate_left
        · simp only [Act.put, List.setIfInBounds_toArray, List.set_cons_zero, List.set_cons_succ]
          rfl
        refine pure_ (i := 19) (N := some 95) (v := ?_) (a' := ?_) #[true, true, true, true, true, true, true, true, true, true, true, true, true, true, true, true, true, true, true, true, false, false, false, false, false] rfl rfl (by kernel_rfl) (fun _ _ _ h => h) (Or.inl ⟨by rfl, ?_⟩) ?_ ?_
        rotate_left
        · intro w'
          go_simp
          with_reducible rfl
        rotate_left
        · simp only [Act.put, List.setIfInBounds_toArray, List.set_cons_zero, List.set_cons_succ]
          rfl
        refine pure_ (i := 20) (N := some 96) (v := ?_) (a' := ?_) #[true, true, true, true, true, true, true, true, true, true, true, true, true, true, true, true, true, true, true, true, true, false, false, false, false] rfl rfl (by kernel_rfl) (fun _ _ _ h => h) (Or.inl ⟨by rfl, ?_⟩) ?_ ?_
        rotate_left
        · intro w'
          go_simp
          with_reducible rfl
        rotate_left
        · simp only [Act.put, List.setIfInBounds_toArray, List.set_cons_zero, List.set_cons_succ]
          rfl
        refine take_ (i := 21) (N := some 97) (v := ?_) (a' := ?_) #[true, true, true, true, true, true, true, true, true, true, true, true, true, true, true, true, true, true, true, true, true, true, false, false, false] rfl rfl (by kernel_rfl) (fun _ _ _ h => h) (Or.inl ⟨by rfl, ?_⟩) hHeld ?_ ?_
        rotate_left
        · rintro w' ⟨⟩
          go_simp
          with_reducible rfl
        rotate_left
        · simp only [Act.put, List.setIfInBounds_toArray, List.set_cons_zero, List.set_cons_succ]
          rfl
        refine pure_ (i := 22) (N := some 98) (v := ?_) (a' := ?_) #[true, true, true, true, true, true, true, true, true, true, true, true, true, true, true, true, true, true, true, true, true, true, true, false, false] rfl rfl (by kernel_rfl) (fun _ _ _ h => h) (Or.inl ⟨by rfl, ?_⟩) ?_ ?_
        rotate_left
        · intro w'
          go_simp
          with_reducible rfl
        rotate_left
        · simp only [Act.put, List.setIfInBounds_toArray, List.set_cons_zero, List.set_cons_succ]
          rfl
        refine pure_ (i := 23) (N := some 99) (v := ?_) (a' := ?_) #[true, true, true, true, true, true, true, true, true, true, true, true, true, true, true, true, true, true, true, true, true, true, true, true, false] rfl rfl (by kernel_rfl) (fun _ _ _ h => h) (Or.inl ⟨by rfl, ?_⟩) ?_ ?_
        rotate_left
        · intro w'
          go_simp
          with_reducible rfl
        rotate_left
        · simp only [Act.put, List.setIfInBounds_toArray, List.set_cons_zero, List.set_cons_succ]
          rfl
        refine pure_ (i := 24) (N := some 100) (v := ?_) (a' := ?_) #[true, true, true, true, true, true, true, true, true, true, true, true, true, true, true, true, true, true, true, true, true, true, true, true, true] rfl rfl (by kernel_rfl) (fun _ _ _ h => h) (Or.inl ⟨by rfl, ?_⟩) ?_ ?_
        rotate_left
        · intro w'
          go_simp
          with_reducible rfl
        rotate_left
        · simp only [Act.put, List.setIfInBounds_toArray, List.set_cons_zero, List.set_cons_succ]
          rfl
        refine done_ (by kernel_rfl) ?_
        clear X11 Y11 B11 hHeld
        go_wp2_with fail
        go_roundw
        case rel => exact ⟨j + 1, by omega, by go_num, bl_trans hbw (bl_drew (Below.refl _ _))⟩
        case measure => simp [intOf]; omega
    · have hjn : j = n := by omega
      subst hjn
      go_wp2_with fail
      have X12 := (show C9 _ b1 (o1 + k * 9) ⟨x0, ⟨x1, x2, x3, x4⟩, ⟨x5, x6, x7, x8⟩⟩ from X10.out).call hbw hl1 |>.drew
      have Y12 := (show C9 _ b2 (o2 + k * 9) ⟨y0, ⟨y1, y2, y3, y4⟩, ⟨y5, y6, y7, y8⟩⟩ from Y10.out).call hbw hl2 |>.drew
      have B12 := (show C9 _ b (off + k * 9) ⟨z0, ⟨z1, z2, z3, z4⟩, ⟨z5, z6, z7, z8⟩⟩ from B10.out).call hbw hl3 |>.drew
      have HB12 := bl_trans HB10 (bl_trans hbw (bl_drew (Below.refl _ _)))
      have hl1 := Nat.lt_of_lt_of_le hlr1 (bl_drew (Below.refl wr.heap.size wr)).size
      have hl2 := Nat.lt_of_lt_of_le hlr2 (bl_drew (Below.refl wr.heap.size wr)).size
      have hl3 := Nat.lt_of_lt_of_le hlr3 (bl_drew (Below.refl wr.heap.size wr)).size
      clear T1 T2 X10 Y10 B10 L5' hlr1 hlr2 hlr3
      refine start_ (n := 38) (S := fun w' => w'.cell? ⟨b1, o1 + k * 9, none⟩ = some (.bool x0) ∧ w'.cell? ⟨b1, o1 + k * 9 + 1, none⟩ = some (.int .i64 x1) ∧ w'.cell? ⟨b1, o1 + k * 9 + 2, none⟩ = some (.bool x2) ∧ w'.cell? ⟨b1, o1 + k * 9 + 3, none⟩ = some (.int .u64 x3) ∧ w'.cell? ⟨b1, o1 + k * 9 + 4, none⟩ = some (.int .i64 x4) ∧ w'.cell? ⟨b1, o1 + k * 9 + 5, none⟩ = some (.int .i64 x5) ∧ w'.cell? ⟨b1, o1 + k * 9 + 6, none⟩ = some (.bool x6) ∧ w'.cell? ⟨b1, o1 + k * 9 + 7, none⟩ = some (.int .u64 x7) ∧ w'.cell? ⟨b1, o1 + k * 9 + 8, none⟩ = some (.int .i64 x8) ∧ w'.cell? ⟨b, off + k * 9, none⟩ = some (.bool z0) ∧ w'.cell? ⟨b, off + k * 9 + 1, none⟩ = some (.int .i64 z1) ∧ w'.cell? ⟨b, off + k * 9 + 2, none⟩ = some (.bool z2) ∧ w'.cell? ⟨b, off + k * 9 + 3, none⟩ = some (.int .u64 z3) ∧ w'.cell? ⟨b, off + k * 9 + 4, none⟩ = some (.int .i64 z4) ∧ w'.cell? ⟨b, off + k * 9 + 5, none⟩ = some (.int .i64 z5) ∧ w'.cell? ⟨b, off + k * 9 + 6, none⟩ = some (.bool z6) ∧ w'.cell? ⟨b, off + k * 9 + 7, none⟩ = some (.int .u64 z7) ∧ w'.cell? ⟨b, off + k * 9 + 8, none⟩ = some (.int .i64 z8) ∧ w'.cell? ⟨b2, o2 + k * 9, none⟩ = some (.bool y0) ∧ w'.cell? ⟨b2, o2 + k * 9 + 1, none⟩ = some (.int .i64 y1) ∧ w'.cell? ⟨b2, o2 + k * 9 + 2, none⟩ = some (.bool y2) ∧ w'.cell? ⟨b2, o2 + k * 9 + 3, none⟩ = some (.int .u64 y3) ∧ w'.cell? ⟨b2, o2 + k * 9 + 4, none⟩ = some (.int .i64 y4) ∧ w'.cell? ⟨b2, o2 + k * 9 + 5, none⟩ = some (.int .i64 y5) ∧ w'.cell? ⟨b2, o2 + k * 9 + 6, none⟩ = some (.bool y6) ∧ w'.cell? ⟨b2, o2 + k * 9 + 7, none⟩ = some (.int .u64 y7) ∧ w'.cell? ⟨b2, o2 + k * 9 + 8, none⟩ = some (.int .i64 y8)) (ds := []) #[false, false, false, false, false, false, false, false, false, false, false, false, false, false, false, false, false, false, false, false, false, false, false, false, false, false, false, false, false, false, false, false, false, false, false, false, false, false] (by kernel_rfl) rfl rfl ⟨X12.1, X12.2.1, X12.2.2.1, X12.2.2.2.1, X12.2.2.2.2.1, X12.2.2.2.2.2.1, X12.2.2.2.2.2.2.1, X12.2.2.2.2.2.2.2.1, X12.2.2.2.2.2.2.2.2, B12.1, B12.2.1, B12.2.2.1, B12.2.2.2.1, B12.2.2.2.2.1, B12.2.2.2.2.2.1, B12.2.2.2.2.2.2.1, B12.2.2.2.2.2.2.2.1, B12.2.2.2.2.2.2.2.2, Y12.1, Y12.2.1, Y12.2.2.1, Y12.2.2.2.1, Y12.2.2.2.2.1, Y12.2.2.2.2.2.1, Y12.2.2.2.2.2.2.1, Y12.2.2.2.2.2.2.2.1, Y12.2.2.2.2.2.2.2.2⟩ (fun hHeld => ?_)
      skip
      refine pure_ (i := 0) (N := some 101) (v := ?_) (a' := ?_) #[true, false, false, false, false, false, false, false, false, false, false, false, false, false, false, false, false, false, false, false, false, false, false, false, false, false, false, false, false, false, false, false, false, false, false, false, false, false] rfl rfl (by kernel_rfl) (fun _ _ _ h => h) (Or.inl ⟨by rfl, ?_⟩) ?_ ?_
      rotate_left
      · intro w'
        go_simp
        with_reducible rfl
      rotate_left
      · simp only [Act.put, List.setIfInBounds_toArray, List.set_cons_zero, List.set_cons_succ]
        rfl
      refine pure_ (i := 1) (N := some 102) (v := ?_) (a' := ?_) #[true, true, false, false, false, false, false, false, false, false, false, false, false, false, false, false, false, false, false, false, false, false, false, false, false, false, false, false, false, false, false, false, false, false, false, false, false, false] rfl rfl (by kernel_rfl) (fun _ _ _ h => h) (Or.inl ⟨by rfl, ?_⟩) ?_ ?_
      rotate_left
      · intro w'
        go_simp
        with_reducible rfl
      rotate_left
      · simp only [Act.put, List.setIfInBounds_toArray, List.set_cons_zero, List.set_cons_succ]
        rfl
      refine pure_ (i := 2) (N := some 103) (v := ?_) (a' := ?_) #[true, true, true, false, false, false, false, false, false, false, false, false, false, false, false, false, false, false, false, false, false, false, false, false, false, false, false, false, false, false, false, false, false, false, false, false, false, false] rfl rfl (by kernel_rfl) (fun _ _ _ h => h) (Or.inl ⟨by rfl, ?_⟩) ?_ ?_
      rotate_left
      · intro w'
        go_simp
        with_reducible rfl
      rotate_left
      · simp only [Act.put, List.setIfInBounds_toArray, List.set_cons_zero, List.set_cons_succ]
        rfl
      refine take_ (i := 3) (N := some 104) (v := ?_) (a' := ?_) #[true, true, true, true, false, false, false, false, false, false, false, false, false, false, false, false, false, false, false, false, false, false, false, false, false, false, false, false, false, false, false, false, false, false, false, false, false, false] rfl rfl (by kernel_rfl) (fun _ _ _ h => h) (Or.inl ⟨by rfl, ?_⟩) hHeld ?_ ?_
      rotate_left
      · rintro w' ⟨⟩
        go_simp
        with_reducible rfl
      rotate_left
      · simp only [Act.put, List.setIfInBounds_toArray, List.set_cons_zero, List.set_cons_succ]
        rfl
      refine pure_ (i := 4) (N := some 105) (v := ?_) (a' := ?_) #[true, true, true, true, true, false, false, false, false, false, false, false, false, false, false, false, false, false, false, false, false, false, false, false, false, false, false, false, false, false, false, false, false, false, false, false, false, false] rfl rfl (by kernel_rfl) (fun _ _ _ h => h) (Or.inl ⟨by rfl, ?_⟩) ?_ ?_
      rotate_left
      · intro w'
        go_simp
        with_reducible rfl
      rotate_left
      · simp only [Act.put, List.setIfInBounds_toArray, List.set_cons_zero, List.set_cons_succ]
        rfl
      refine pure_ (i := 5) (N := some 106) (v := ?_) (a' := ?_) #[true, true, true, true, true, true, false, false, false, false, false, false, false, false, false, false, false, false, false, false, false, false, false, false, false, false, false, false, false, false, false, false, false, false, false, false, false, false] rfl rfl (by kernel_rfl) (fun _ _ _ h => h) (Or.inl ⟨by rfl, ?_⟩) ?_ ?_
      rotate_left
      · intro w'
        go_simp
        with_reducible rfl
      rotate_left
      · simp only [Act.put, List.setIfInBounds_toArray, List.set_cons_zero, List.set_cons_succ]
        rfl
      refine pure_ (i := 6) (N := some 107) (v := ?_) (a' := ?_) #[true, true, true, true, true, true, true, false, false, false, false, false, false, false, false, false, false, false, false, false, false, false, false, false, false, false, false, false, false, false, false, false, false, false, false, false, false, false] rfl rfl (by kernel_rfl) (fun _ _ _ h => h) (Or.inl ⟨by rfl, ?_⟩) ?_ ?_
      rotate_left
      · intro w'
        go_simp
        with_reducible rfl
      rotate_left
      · simp only [Act.put, List.setIfInBounds_toArray, List.set_cons_zero, List.set_cons_succ]
        rfl
      refine take_ (i := 7) (N := some 108) (v := ?_) (a' := ?_) #[true, true, true, true, true, true, true, true, false, false, false, false, false, false, false, false, false, false, false, false, false, false, false, false, false, false, false, false, false, false, false, false, false, false, false, false, false, false] rfl rfl (by kernel_rfl) (fun _ _ _ h => h) (Or.inl ⟨by rfl, ?_⟩) hHeld ?_ ?_
      rotate_left
      · rintro w' ⟨⟩
        go_simp
        with_reducible rfl
      rotate_left
      · simp only [Act.put, List.setIfInBounds_toArray, List.set_cons_zero, List.set_cons_succ]
        rfl
      refine one_ (i := 8) (N := some 109) #[true, true, true, true, true, true, true, true, true, false, false, false, false, false, false, false, false, false, false, false, false, false, false, false, false, false, false, false, false, false, false, false, false, false, false, false, false, false] rfl rfl (by kernel_rfl) (by decide) (fun K hK => ?_)
      refine goes_ Try.func18 (by kernel_rfl) rfl #[.agg #[.bool x0, .int .i64 x1, .bool x2, .int .u64 x3, .int .i64 x4, .int .i64 x5, .bool x6, .int .u64 x7, .int .i64 x8], .agg #[.bool z0, .int .i64 z1, .bool z2, .int .u64 z3, .int .i64 z4, .int .i64 z5, .bool z6, .int .u64 z7, .int .i64 z8]] (by rfl) rfl rfl (by simp only [List.map_toArray, List.map_cons, List.map_nil] <;> rfl) ?_
      with_reducible refine (HW1.out _).mono ?_
      rintro e w13 ⟨rfl, hb⟩
      refine ⟨_, rfl, ?_⟩
      have X12 := X12.call hb hl1
      have Y12 := Y12.call hb hl2
      have B12 := B12.call hb hl3
      have hl1 := Nat.lt_of_lt_of_le hl1 hb.size
      have hl2 := Nat.lt_of_lt_of_le hl2 hb.size
      have hl3 := Nat.lt_of_lt_of_le hl3 hb.size
      have HB12 := bl_trans HB12 hb
      refine hK.out _ _ ⟨X12.1, X12.2.1, X12.2.2.1, X12.2.2.2.1, X12.2.2.2.2.1, X12.2.2.2.2.2.1, X12.2.2.2.2.2.2.1, X12.2.2.2.2.2.2.2.1, X12.2.2.2.2.2.2.2.2, B12.1, B12.2.1, B12.2.2.1, B12.2.2.2.1, B12.2.2.2.2.1, B12.2.2.2.2.2.1, B12.2.2.2.2.2.2.1, B12.2.2.2.2.2.2.2.1, B12.2.2.2.2.2.2.2.2, Y12.1, Y12.2.1, Y12.2.2.1, Y12.2.2.2.1, Y12.2.2.2.2.1, Y12.2.2.2.2.2.1, Y12.2.2.2.2.2.2.1, Y12.2.2.2.2.2.2.2.1, Y12.2.2.2.2.2.2.2.2⟩ (fun hHeld => ?_)
      clear hK K hb
      refine norm_ (a' := ?_) ?_ ?_
      rotate_left
      · show Act.put _ (some 109) _ = _
        simp only [Act.put, List.setIfInBounds_toArray, List.set_cons_zero, List.set_cons_succ]
        rfl
      refine pure_ (i := 9) (N := some 110) (v := ?_) (a' := ?_) #[true, true, true, true, true, true, true, true, true, true, false, false, false, false, false, false, false, false, false, false, false, false, false, false, false, false, false, false, false, false, false, false, false, false, false, false, false, false] rfl rfl (by kernel_rfl) (fun _ _ _ h => h) (Or.inl ⟨by rfl, ?_⟩) ?_ ?_
      rotate_left
      · intro w'
        go_simp
        with_reducible rfl
      rotate_left
      · simp only [Act.put, List.setIfInBounds_toArray, List.set_cons_zero, List.set_cons_succ]
        rfl
      refine pure_ (i := 10) (N := some 111) (v := ?_) (a' := ?_) #[true, true, true, true, true, true, true, true, true, true, true, false, false, false, false, false, false, false, false, false, false, false, false, false, false, false, false, false, false, false, false, false, false, false, false, false, false, false] rfl rfl (by kernel_rfl) (fun _ _ _ h => h) (Or.inl ⟨by rfl, ?_⟩) ?_ ?_
      rotate_left
      · intro w'
        go_simp
        with_reducible rfl
      rotate_left
      · simp only [Act.put, List.setIfInBounds_toArray, List.set_cons_zero, List.set_cons_succ]
        rfl
      refine pure_ (i := 11) (N := some 112) (v := ?_) (a' := ?_) #[true, true, true, true, true, true, true, true, true, true, true, true, false, false, false, false, false, false, false, false, false, false, false, false, false, false, false, false, false, false, false, false, false, false, false, false, false, false] rfl rfl (by kernel_rfl) (fun _ _ _ h => h) (Or.inl ⟨by rfl, ?_⟩) ?_ ?_
      rotate_left
      · intro w'
        go_simp
        with_reducible rfl
      rotate_left
      · simp only [Act.put, List.setIfInBounds_toArray, List.set_cons_zero, List.set_cons_succ]
        rfl
      refine pure_ (i := 12) (N := some 113) (v := ?_) (a' := ?_) #[true, true, true, true, true, true, true, true, true, true, true, true, true, false, false, false, false, false, false, false, false, false, false, false, false, false, false, false, false, false, false, false, false, false, false, false, false, false] rfl rfl (by kernel_rfl) (fun _ _ _ h => h) (Or.inl ⟨by rfl, ?_⟩) ?_ ?_
      rotate_left
      · intro w'
        go_simp
        with_reducible rfl
      rotate_left
      · simp only [Act.put, List.setIfInBounds_toArray, List.set_cons_zero, List.set_cons_succ]
        rfl
      refine take_ (i := 13) (N := some 114) (v := ?_) (a' := ?_) #[true, true, true, true, true, true, true, true, true, true, true, true, true, true, false, false, false, false, false, false, false, false, false, false, false, false, false, false, false, false, false, false, false, false, false, false, false, false] rfl rfl (by kernel_rfl) (fun _ _ _ h => h) (Or.inl ⟨by rfl, ?_⟩) hHeld ?_ ?_
      rotate_left
      · rintro w' ⟨⟩
        go_simp
        with_reducible rfl
      rotate_left
      · simp only [Act.put, List.setIfInBounds_toArray, List.set_cons_zero, List.set_cons_succ]
        rfl
      refine pure_ (i := 14) (N := some 115) (v := ?_) (a' := ?_) #[true, true, true, true, true, true, true, true, true, true, true, true, true, true, true, false, false, false, false, false, false, false, false, false, false, false, false, false, false, false, false, false, false, false, false, false, false, false] rfl rfl (by kernel_rfl) (fun _ _ _ h => h) (Or.inl ⟨by rfl, ?_⟩) ?_ ?_
      rotate_left
      · intro w'
        go_simp
        with_reducible rfl
      rotate_left
      · simp only [Act.put, List.setIfInBounds_toArray, List.set_cons_zero, List.set_cons_succ]
        rfl
      refine pure_ (i := 15) (N := some 116) (v := ?_) (a' := ?_) #[true, true, true, true, true, true, true, true, true, true, true, true, true, true, true, true, false, false, false, false, false, false, false, false, false, false, false, false, false, false, false, false, false, false, false, false, false, false] rfl rfl (by kernel_rfl) (fun _ _ _ h => h) (Or.inl ⟨by rfl, ?_⟩) ?_ ?_
      rotate_left
      · intro w'
        go_simp
        with_reducible rfl
      rotate_left
      · simp only [Act.put, List.setIfInBounds_toArray, List.set_cons_zero, List.set_cons_succ]
        rfl
      refine pure_ (i := 16) (N := some 117) (v := ?_) (a' := ?_) #[true, true, true, true, true, true, true, true, true, true, true, true, true, true, true, true, true, false, false, false, false, false, false, false, false, false, false, false, false, false, false, false, false, false, false, false, false, false] rfl rfl (by kernel_rfl) (fun _ _ _ h => h) (Or.inl ⟨by rfl, ?_⟩) ?_ ?_
      rotate_left
      · intro w'
        go_simp
        with_reducible rfl
      rotate_left
      · simp only [Act.put, List.setIfInBounds_toArray, List.set_cons_zero, List.set_cons_succ]
        rfl
      refine take_ (i := 17) (N := some 118) (v := ?_) (a' := ?_) #[true, true, true, true, true, true, true, true, true, true, true, true, true, true, true, true, true, true, false, false, false, false, false, false, false, false, false, false, false, false, false, false, false, false, false, false, false, false] rfl rfl (by kernel_rfl) (fun _ _ _ h => h) (Or.inl ⟨by rfl, ?_⟩) hHeld ?_ ?_
      rotate_left
      · rintro w' ⟨⟩
        go_simp
        with_reducible rfl
      rotate_left
      · simp only [Act.put, List.setIfInBounds_toArray, List.set_cons_zero, List.set_cons_succ]
        rfl
      refine one_ (i := 18) (N := some 119) #[true, true, true, true, true, true, true, true, true, true, true, true, true, true, true, true, true, true, true, false, false, false, false, false, false, false, false, false, false, false, false, false, false, false, false, false, false, false] rfl rfl (by kernel_rfl) (by decide) (fun K hK => ?_)
      refine goes_ Try.func18 (by kernel_rfl) rfl #[.agg #[.bool y0, .int .i64 y1, .bool y2, .int .u64 y3, .int .i64 y4, .int .i64 y5, .bool y6, .int .u64 y7, .int .i64 y8], .agg #[.bool z0, .int .i64 z1, .bool z2, .int .u64 z3, .int .i64 z4, .int .i64 z5, .bool z6, .int .u64 z7, .int .i64 z8]] (by rfl) rfl rfl (by simp only [List.map_toArray, List.map_cons, List.map_nil] <;> rfl) ?_
      with_reducible refine (HW2.out _).mono ?_
      rintro e w14 ⟨rfl, hb⟩
      refine ⟨_, rfl, ?_⟩
      have X12 := X12.call hb hl1
      have Y12 := Y12.call hb hl2
      have B12 := B12.call hb hl3
      have hl1 := Nat.lt_of_lt_of_le hl1 hb.size
      have hl2 := Nat.lt_of_lt_of_le hl2 hb.size
      have hl3 := Nat.lt_of_lt_of_le hl3 hb.size
      have HB12 := bl_trans HB12 hb
      refine hK.out _ _ ⟨X12.1, X12.2.1, X12.2.2.1, X12.2.2.2.1, X12.2.2.2.2.1, X12.2.2.2.2.2.1, X12.2.2.2.2.2.2.1, X12.2.2.2.2.2.2.2.1, X12.2.2.2.2.2.2.2.2, B12.1, B12.2.1, B12.2.2.1, B12.2.2.2.1, B12.2.2.2.2.1, B12.2.2.2.2.2.1, B12.2.2.2.2.2.2.1, B12.2.2.2.2.2.2.2.1, B12.2.2.2.2.2.2.2.2, Y12.1, Y12.2.1, Y12.2.2.1, Y12.2.2.2.1, Y12.2.2.2.2.1, Y12.2.2.2.2.2.1, Y12.2.2.2.2.2.2.1, Y12.2.2.2.2.2.2.2.1, Y12.2.2.2.2.2.2.2.2⟩ (fun hHeld => ?_)
      clear hK K hb
      refine norm_ (a' := ?_) ?_ ?_
      rotate_left
      · show Act.put _ (some 119) _ = _
        simp only [Act.put, List.setIfInBounds_toArray, List.set_cons_zero, List.set_cons_succ]
        rfl
      refine pure_ (i := 19) (N := some 120) (v := ?_) (a' := ?_) #[true, true, true, true, true, true, true, true, true, true, true, true, true, true, true, true, true, true, true, true, false, false, false, false, false, false, false, false, false, false, false, false, false, false, false, false, false, false] rfl rfl (by kernel_rfl) (fun _ _ _ h => h) (Or.inl ⟨by rfl, ?_⟩) ?_ ?_
      rotate_left
      · intro w'
        go_simp
        with_reducible rfl
      rotate_left
      · simp only [Act.put, List.setIfInBounds_toArray, List.set_cons_zero, List.set_cons_succ]
        rfl
      refine pure_ (i := 20) (N := some 121) (v := ?_) (a' := ?_) #[true, true, true, true, true, true, true, true, true, true, true, true, true, true, true, true, true, true, true, true, true, false, false, false, false, false, false, false, false, false, false, false, false, false, false, false, false, false] rfl rfl (by kernel_rfl) (fun _ _ _ h => h) (Or.inl ⟨by rfl, ?_⟩) ?_ ?_
      rotate_left
      · intro w'
        go_simp
        with_reducible rfl
      rotate_left
      · simp only [Act.put, List.setIfInBounds_toArray, List.set_cons_zero, List.set_cons_succ]
        rfl
      refine pure_ (i := 21) (N := some 122) (v := ?_) (a' := ?_) #[true, true, true, true, true, true, true, true, true, true, true, true, true, true, true, true, true, true, true, true, true, true, false, false, false, false, false, false, false, false, false, false, false, false, false, false, false, false] rfl rfl (by kernel_rfl) (fun _ _ _ h => h) (Or.inl ⟨by rfl, ?_⟩) ?_ ?_
      rotate_left
      · intro w'
        go_simp
        with_reducible rfl
      rotate_left
      · simp only [Act.put, List.setIfInBounds_toArray, List.set_cons_zero, List.set_cons_succ]
        rfl
      refine pure_ (i := 22) (N := some 123) (v := ?_) (a' := ?_) #[true, true, true, true, true, true, true, true, true, true, true, true, true, true, true, true, true, true, true, true, true, true, true, false, false, false, false, false, false, false, false, false, false, false, false, false, false, false] rfl rfl (by kernel_rfl) (fun _ _ _ h => h) (Or.inl ⟨by rfl, ?_⟩) ?_ ?_
      rotate_left
      · intro w'
        go_simp
        with_reducible rfl
      rotate_left
      · simp only [Act.put, List.setIfInBounds_toArray, List.set_cons_zero, List.set_cons_succ]
        rfl
      refine pure_ (i := 23) (N := some 124) (v := ?_) (a' := ?_) #[true, true, true, true, true, true, true, true, true, true, true, true, true, true, true, true, true, true, true, true, true, true, true, true, false, false, false, false, false, false, false, false, false, false, false, false, false, false] rfl rfl (by kernel_rfl) (fun _ _ _ h => h) (Or.inl ⟨by rfl, ?_⟩) ?_ ?_
      rotate_left
      · intro w'
        go_simp
        with_reducible rfl
      rotate_left
      · simp only [Act.put, List.setIfInBounds_toArray, List.set_cons_zero, List.set_cons_succ]
        rfl
      refine take_ (i := 24) (N := some 125) (v := ?_) (a' := ?_) #[true, true, true, true, true, true, true, true, true, true, true, true, true, true, true, true, true, true, true, true, true, true, true, true, true, false, false, false, false, false, false, false, false, false, false, false, false, false] rfl rfl (by kernel_rfl) (fun _ _ _ h => h) (Or.inl ⟨by rfl, ?_⟩) hHeld ?_ ?_
      rotate_left
      · rintro w' ⟨⟩
        go_simp
        with_reducible rfl
      rotate_left
      · simp only [Act.put, List.setIfInBounds_toArray, List.set_cons_zero, List.set_cons_succ]
        rfl
      refine pure_ (i := 25) (N := some 126) (v := ?_) (a' := ?_) #[true, true, true, true, true, true, true, true, true, true, true, true, true, true, true, true, true, true, true, true, true, true, true, true, true, true, false, false, false, false, false, false, false, false, false, false, false, false] rfl rfl (by kernel_rfl) (fun _ _ _ h => h) (Or.inl ⟨by rfl, ?_⟩) ?_ ?_
      rotate_left
      · intro w'
        go_simp
        with_reducible rfl
      rotate_left
      · simp only [Act.put, List.setIfInBounds_toArray, List.set_cons_zero, List.set_cons_succ]
        rfl
      refine pure_ (i := 26) (N := some 127) (v := ?_) (a' := ?_) #[true, true, true, true, true, true, true, true, true, true, true, true, true, true, true, true, true, true, true, true, true, true, true, true, true, true, true, false, false, false, false, false, false, false, false, false, false, false] rfl rfl (by kernel_rfl) (fun _ _ _ h => h) (Or.inl ⟨by rfl, ?_⟩) ?_ ?_
      rotate_left
      · intro w'
        go_simp
        with_reducible rfl
      rotate_left
      · simp only [Act.put, List.setIfInBounds_toArray, List.set_cons_zero, List.set_cons_succ]
        rfl
      refine pure_ (i := 27) (N := some 128) (v := ?_) (a' := ?_) #[true, true, true, true, true, true, true, true, true, true, true, true, true, true, true, true, true, true, true, true, true, true, true, true, true, true, true, true, false, false, false, false, false, false, false, false, false, false] rfl rfl (by kernel_rfl) (fun _ _ _ h => h) (Or.inl ⟨by rfl, ?_⟩) ?_ ?_
      rotate_left
      · intro w'
        go_simp
        with_reducible rfl
      rotate_left
      · simp only [Act.put, List.setIfInBounds_toArray, List.set_cons_zero, List.set_cons_succ]
        rfl
      refine take_ (i := 28) (N := some 129) (v := ?_) (a' := ?_) #[true, true, true, true, true, true, true, true, true, true, true, true, true, true, true, true, true, true, true, true, true, true, true, true, true, true, true, true, true, false, false, false, false, false, false, false, false, false] rfl rfl (by kernel_rfl) (fun _ _ _ h => h) (Or.inl ⟨by rfl, ?_⟩) hHeld ?_ ?_
      rotate_left
      · rintro w' ⟨⟩
        go_simp
        with_reducible rfl
      rotate_left
      · simp only [Act.put, List.setIfInBounds_toArray, List.set_cons_zero, List.set_cons_succ]
        rfl
      refine pure_ (i := 31) (N := some 132) (v := ?_) (a' := ?_) #[true, true, true, true, true, true, true, true, true, true, true, true, true, true, true, true, true, true, true, true, true, true, true, true, true, true, true, true, true, false, false, true, false, false, false, false, false, false] rfl rfl (by kernel_rfl) (fun _ _ _ h => h) (Or.inl ⟨by rfl, ?_⟩) ?_ ?_
      rotate_left
      · intro w'
        go_simp
        with_reducible rfl
      rotate_left
      · simp only [Act.put, List.setIfInBounds_toArray, List.set_cons_zero, List.set_cons_succ]
        rfl
      refine pure_ (i := 32) (N := some 133) (v := ?_) (a' := ?_) #[true, true, true, true, true, true, true, true, true, true, true, true, true, true, true, true, true, true, true, true, true, true, true, true, true, true, true, true, true, false, false, true, true, false, false, false, false, false] rfl rfl (by kernel_rfl) (fun _ _ _ h => h) (Or.inl ⟨by rfl, ?_⟩) ?_ ?_
      rotate_left
      · intro w'
        go_simp
        with_reducible rfl
      rotate_left
      · simp only [Act.put, List.setIfInBounds_toArray, List.set_cons_zero, List.set_cons_succ]
        rfl
      refine pure_ (i := 33) (N := some 134) (v := ?_) (a' := ?_) #[true, true, true, true, true, true, true, true, true, true, true, true, true, true, true, true, true, true, true, true, true, true, true, true, true, true, true, true, true, false, false, true, true, true, false, false, false, false] rfl rfl (by kernel_rfl) (fun _ _ _ h => h) (Or.inl ⟨by rfl, ?_⟩) ?_ ?_
      rotate_left
      · intro w'
        go_simp
        with_reducible rfl
      rotate_left
      · simp only [Act.put, List.setIfInBounds_toArray, List.set_cons_zero, List.set_cons_succ]
        rfl
      refine take_ (i := 34) (N := some 135) (v := ?_) (a' := ?_) #[true, true, true, true, true, true, true, true, true, true, true, true, true, true, true, true, true, true, true, true, true, true, true, true, true, true, true, true, true, false, false, true, true, true, true, false, false, false] rfl rfl (by kernel_rfl) (fun _ _ _ h => h) (Or.inl ⟨by rfl, ?_⟩) hHeld ?_ ?_
      rotate_left
      · rintro w' ⟨⟩
        go_simp
        with_reducible rfl
      rotate_left
      · simp only [Act.put, List.setIfInBounds_toArray, List.set_cons_zero, List.set_cons_succ]
        rfl
      refine one_ (i := 29) (N := some 130) #[true, true, true, true, true, true, true, true, true, true, true, true, true, true, true, true, true, true, true, true, true, true, true, true, true, true, true, true, true, true, false, true, true, true, true, false, false, false] rfl rfl (by kernel_rfl) (by decide) (fun K hK => ?_)
      refine value_ (v := ?_) (w1 := ?_) (by rfl) rfl ?_ ?_
      rotate_left 2
      · go_simp
        first | rfl | (constructor <;> rfl)
      have BL := Blk.new w14 26 #[.bool x0, .int .i64 x1, .bool x2, .int .u64 x3, .int .i64 x4, .int .i64 x5, .bool x6, .int .u64 x7, .int .i64 x8, .bool y0, .int .i64 y1, .bool y2, .int .u64 y3, .int .i64 y4, .int .i64 y5, .bool y6, .int .u64 y7, .int .i64 y8]
      have hb : Below w14.heap.size w14 (w14.alloc (.cells #[.bool x0, .int .i64 x1, .bool x2, .int .u64 x3, .int .i64 x4, .int .i64 x5, .bool x6, .int .u64 x7, .int .i64 x8, .bool y0, .int .i64 y1, .bool y2, .int .u64 y3, .int .i64 y4, .int .i64 y5, .bool y6, .int .u64 y7, .int .i64 y8] 26)) := bl_alloc (Below.refl _ _) _
      have X12 := X12.call hb hl1
      have Y12 := Y12.call hb hl2
      have B12 := B12.call hb hl3
      have hl1 := Nat.lt_of_lt_of_le hl1 hb.size
      have hl2 := Nat.lt_of_lt_of_le hl2 hb.size
      have hl3 := Nat.lt_of_lt_of_le hl3 hb.size
      have HB12 := bl_trans HB12 hb
      clear hb
      refine hK.out _ _ ⟨X12.1, X12.2.1, X12.2.2.1, X12.2.2.2.1, X12.2.2.2.2.1, X12.2.2.2.2.2.1, X12.2.2.2.2.2.2.1, X12.2.2.2.2.2.2.2.1, X12.2.2.2.2.2.2.2.2, B12.1, B12.2.1, B12.2.2.1, B12.2.2.2.1, B12.2.2.2.2.1, B12.2.2.2.2.2.1, B12.2.2.2.2.2.2.1, B12.2.2.2.2.2.2.2.1, B12.2.2.2.2.2.2.2.2, Y12.1, Y12.2.1, Y12.2.2.1, Y12.2.2.2.1, Y12.2.2.2.2.1, Y12.2.2.2.2.2.1, Y12.2.2.2.2.2.2.1, Y12.2.2.2.2.2.2.2.1, Y12.2.2.2.2.2.2.2.2⟩ (fun hHeld => ?_)
      clear hK K
      refine norm_ (a' := ?_) ?_ ?_
      rotate_left
      · show Act.put _ (some 130) _ = _
        simp only [Act.put, List.setIfInBounds_toArray, List.set_cons_zero, List.set_cons_succ]
        rfl
      refine one_ (i := 30) (N := some 131) #[true, true, true, true, true, true, true, true, true, true, true, true, true, true, true, true, true, true, true, true, true, true, true, true, true, true, true, true, true, true, true, true, true, true, true, false, false, false] rfl rfl (by kernel_rfl) (by decide) (fun K hK => ?_)
      refine goes_ Try.func22 (by kernel_rfl) rfl #[.slice (some ⟨w14.heap.size, 0, none⟩) 2 2] (by rfl) rfl rfl (by simp only [List.map_toArray, List.map_cons, List.map_nil] <;> rfl) ?_
      with_reducible refine (HU.out _ _ (SlI.lit2 (x := ⟨x0, ⟨x1, x2, x3, x4⟩, ⟨x5, x6, x7, x8⟩⟩) (y := ⟨y0, ⟨y1, y2, y3, y4⟩, ⟨y5, y6, y7, y8⟩⟩) BL BL.lt)).mono ?_
      rintro e w15 ⟨rfl, hb⟩
      refine ⟨_, rfl, ?_⟩
      have X12 := X12.call hb hl1
      have Y12 := Y12.call hb hl2
      have B12 := B12.call hb hl3
      have hl1 := Nat.lt_of_lt_of_le hl1 hb.size
      have hl2 := Nat.lt_of_lt_of_le hl2 hb.size
      have hl3 := Nat.lt_of_lt_of_le hl3 hb.size
      have HB12 := bl_trans HB12 hb
      refine hK.out _ _ ⟨X12.1, X12.2.1, X12.2.2.1, X12.2.2.2.1, X12.2.2.2.2.1, X12.2.2.2.2.2.1, X12.2.2.2.2.2.2.1, X12.2.2.2.2.2.2.2.1, X12.2.2.2.2.2.2.2.2, B12.1, B12.2.1, B12.2.2.1, B12.2.2.2.1, B12.2.2.2.2.1, B12.2.2.2.2.2.1, B12.2.2.2.2.2.2.1, B12.2.2.2.2.2.2.2.1, B12.2.2.2.2.2.2.2.2, Y12.1, Y12.2.1, Y12.2.2.1, Y12.2.2.2.1, Y12.2.2.2.2.1, Y12.2.2.2.2.2.1, Y12.2.2.2.2.2.2.1, Y12.2.2.2.2.2.2.2.1, Y12.2.2.2.2.2.2.2.2⟩ (fun hHeld => ?_)
      clear hK K hb
      refine norm_ (a' := ?_) ?_ ?_
      rotate_left
      · show Act.put _ (some 131) _ = _
        simp only [Act.put, List.setIfInBounds_toArray, List.set_cons_zero, List.set_cons_succ]
        rfl
      refine pure_ (i := 35) (N := some 136) (v := ?_) (a' := ?_) #[true, true, true, true, true, true, true, true, true, true, true, true, true, true, true, true, true, true, true, true, true, true, true, true, true, true, true, true, true, true, true, true, true, true, true, true, false, false] rfl rfl (by kernel_rfl) (fun _ _ _ h => h) (Or.inl ⟨by rfl, ?_⟩) ?_ ?_
      rotate_left
      · intro w'
        go_simp
        with_reducible rfl
      rotate_left
      · simp only [Act.put, List.setIfInBounds_toArray, List.set_cons_zero, List.set_cons_succ]
        rfl
      refine pure_ (i := 36) (N := some 137) (v := ?_) (a' := ?_) #[true, true, true, true, true, true, true, true, true, true, true, true, true, true, true, true, true, true, true, true, true, true, true, true, true, true, true, true, true, true, true, true, true, true, true, true, true, false] rfl rfl (by kernel_rfl) (fun _ _ _ h => h) (Or.inl ⟨by rfl, ?_⟩) ?_ ?_
      rotate_left
      · intro w'
        go_simp
        with_reducible rfl
      rotate_left
      · simp only [Act.put, List.setIfInBounds_toArray, List.set_cons_zero, List.set_cons_succ]
        rfl
      refine pure_ (i := 37) (N := some 2) (v := ?_) (a' := ?_) #[true, true, true, true, true, true, true, true, true, true, true, true, true, true, true, true, true, true, true, true, true, true, true, true, true, true, true, true, true, true, true, true, true, true, true, true, true, true] rfl rfl (by kernel_rfl) (fun _ _ _ h => h) (Or.inl ⟨by rfl, ?_⟩) ?_ ?_
      rotate_left
      · intro w'
        go_simp
        with_reducible rfl
      rotate_left
      · simp only [Act.put, List.setIfInBounds_toArray, List.set_cons_zero, List.set_cons_succ]
        rfl
      refine done_ (by kernel_rfl) ?_
      go_wp2_with fail
      go_ret
      exact ⟨rfl, HB12⟩
end Go.Proofs.Ytagojbgmgkkdpaa.Wk
