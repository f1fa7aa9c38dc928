/- Walks: tube.May, pelorusref17.May. -/
import Derived.Test.YtakajahogjeiaabTubA
namespace Go.Proofs.Ytakajahogjeiaab.Wk
open Go.RowKit Go.Proofs.Pl Go.Proofs.YtakajahogjeiaabW.PrintLast
set_option linter.unusedSimpArgs false
set_option linter.unusedVariables false
theorem whenX_calls (x : Num) (w : World) : Calls Try.prog 113 #[.agg #[.int .i64 (x).k, .bool (x).n, .int .u64 (x).m, .int .i64 (x).e]] w fun e w' => e = .returned (.bool (whenN x)) ∧ Below w.heap.size w w' := by
  obtain ⟨a0, a1, a2, a3⟩ := x
  exact when_calls a0 a1 a2 a3 w
theorem finiteX_calls (x : Num) (w : World) : Calls Try.prog 106 #[.agg #[.int .i64 (x).k, .bool (x).n, .int .u64 (x).m, .int .i64 (x).e]] w fun e w' => e = .returned (.bool (whenN x)) ∧ Below w.heap.size w w' := by
  obtain ⟨a0, a1, a2, a3⟩ := x
  exact finite_calls a0 a1 a2 a3 w
theorem mayIX_calls (x : Iv) (w : World) : Calls Try.prog 15 #[.agg #[.bool (x).emp, .int .i64 ((x).lo).k, .bool ((x).lo).n, .int .u64 ((x).lo).m, .int .i64 ((x).lo).e, .int .i64 ((x).hi).k, .bool ((x).hi).n, .int .u64 ((x).hi).m, .int .i64 ((x).hi).e]] w fun e w' => e = .returned (.bool (mayI x)) ∧ Below w.heap.size w w' := by
  obtain ⟨a0, ⟨a1, a2, a3, a4⟩, ⟨a5, a6, a7, a8⟩⟩ := x
  exact mayI_calls a0 a1 a2 a3 a4 a5 a6 a7 a8 w
theorem r8mayX_calls (x : Iv) (w : World) : Calls Try.prog 112 #[.agg #[.bool (x).emp, .int .i64 ((x).lo).k, .bool ((x).lo).n, .int .u64 ((x).lo).m, .int .i64 ((x).lo).e, .int .i64 ((x).hi).k, .bool ((x).hi).n, .int .u64 ((x).hi).m, .int .i64 ((x).hi).e]] w fun e w' => e = .returned (.bool (mayI x)) ∧ Below w.heap.size w w' := by
  obtain ⟨a0, ⟨a1, a2, a3, a4⟩, ⟨a5, a6, a7, a8⟩⟩ := x
  exact r8may_calls a0 a1 a2 a3 a4 a5 a6 a7 a8 w
theorem cmpX_calls (x y : Num) (w : World) : Calls Try.prog 31 #[.agg #[.int .i64 (x).k, .bool (x).n, .int .u64 (x).m, .int .i64 (x).e], .agg #[.int .i64 (y).k, .bool (y).n, .int .u64 (y).m, .int .i64 (y).e]] w fun e w' => e = .returned (.int .i64 (cmpN x y)) ∧ Below w.heap.size w w' := by
  obtain ⟨a0, a1, a2, a3⟩ := x
  obtain ⟨b0, b1, b2, b3⟩ := y
  exact cmpN_calls a0 a1 a2 a3 b0 b1 b2 b3 w
theorem rcmpX_calls (x y : Num) (w : World) : Calls Try.prog 92 #[.agg #[.int .i64 (x).k, .bool (x).n, .int .u64 (x).m, .int .i64 (x).e], .agg #[.int .i64 (y).k, .bool (y).n, .int .u64 (y).m, .int .i64 (y).e]] w fun e w' => e = .returned (.int .i64 (cmpN x y)) ∧ Below w.heap.size w w' := by
  obtain ⟨a0, a1, a2, a3⟩ := x
  obtain ⟨b0, b1, b2, b3⟩ := y
  exact rcmpN_calls a0 a1 a2 a3 b0 b1 b2 b3 w
theorem drop_end {xs : List Slc} {n : Nat} {last : Num} (h : xs.length = n) : maySl last (xs.drop n) = true := by
  rw [List.drop_of_length_le (by omega), maySl]

set_option maxRecDepth 100000 in
set_option maxHeartbeats 8000000 in
theorem tmay_calls (s0 : Int) (s1 : Bool) (s2 s3 : Int) (i0 : Bool) (i1 : Int) (i2 : Bool) (i3 i4 i5 : Int) (i6 : Bool) (i7 i8 : Int) (A : Option Addr) (n c : Nat) (xs : List Slc) (w : World) (hs : SlT w w.heap.size A n xs) :
    Calls Try.prog 69 #[.agg #[.int .i64 s0, .bool s1, .int .u64 s2, .int .i64 s3, .bool i0, .int .i64 i1, .bool i2, .int .u64 i3, .int .i64 i4, .int .i64 i5, .bool i6, .int .u64 i7, .int .i64 i8, .slice A n c]] w fun e w' => e = .returned (.bool (mayT ⟨⟨s0, s1, s2, s3⟩, ⟨i0, ⟨i1, i2, i3, i4⟩, ⟨i5, i6, i7, i8⟩⟩, xs⟩)) ∧ Below w.heap.size w w' := by
  unfold mayT
  dsimp only
  rw [show xs.length = n from hs.1]
  have HN := Lib.hid (fun W => finite_calls s0 s1 s2 s3 W)
  have HA := Lib.hid (fun W => mayI_calls i0 i1 i2 i3 i4 i5 i6 i7 i8 W)
  generalize whenN ⟨s0, s1, s2, s3⟩ = m1 at HN ⊢
  generalize mayI ⟨i0, ⟨i1, i2, i3, i4⟩, ⟨i5, i6, i7, i8⟩⟩ = m2 at HA ⊢
  have HL0 := bl_alloc (Below.refl w.heap.size w) (.cells #[.int .i64 s0, .bool s1, .int .u64 s2, .int .i64 s3, .bool i0, .int .i64 i1, .bool i2, .int .u64 i3, .int .i64 i4, .int .i64 i5, .bool i6, .int .u64 i7, .int .i64 i8, .slice A n c] 34)
  have BT0 := Blk.new w 34 #[.int .i64 s0, .bool s1, .int .u64 s2, .int .i64 s3, .bool i0, .int .i64 i1, .bool i2, .int .u64 i3, .int .i64 i4, .int .i64 i5, .bool i6, .int .u64 i7, .int .i64 i8, .slice A n c]
  cases m1
  · go_enter Try.func69, Try.ntmps69
    go_wp2_with (first
    | (go_at_call 106; (with_reducible refine (HN.out _).mono ?_); rintro e w1 ⟨rfl, hb⟩; have HL1 := bl_trans HL0 hb; have BT1 := BT0.call hb; have t0 := BT1.at_ 0 (u := .int .i64 s0) rfl; have t1 := BT1.at_ 1 (u := .bool s1) rfl; have t2 := BT1.at_ 2 (u := .int .u64 s2) rfl; have t3 := BT1.at_ 3 (u := .int .i64 s3) rfl; have t4 := BT1.at_ 4 (u := .bool i0) rfl; have t5 := BT1.at_ 5 (u := .int .i64 i1) rfl; have t6 := BT1.at_ 6 (u := .bool i2) rfl; have t7 := BT1.at_ 7 (u := .int .u64 i3) rfl; have t8 := BT1.at_ 8 (u := .int .i64 i4) rfl; have t9 := BT1.at_ 9 (u := .int .i64 i5) rfl; have t10 := BT1.at_ 10 (u := .bool i6) rfl; have t11 := BT1.at_ 11 (u := .int .u64 i7) rfl; have t12 := BT1.at_ 12 (u := .int .i64 i8) rfl; have t13 := BT1.at_ 13 (u := .slice A n c) rfl; clear hb HN)
    | (go_at_call 15; (with_reducible refine (HA.out _).mono ?_); rintro e w2 ⟨rfl, hb⟩; have HL2 := bl_trans HL1 hb; have BT2 := BT1.call hb; have hg3 : w.heap.size < w2.heap.size := Blk.lt BT2; clear t0 t1 t2 t3 t4 t5 t6 t7 t8 t9 t10 t11 t12 t13; have t0 := BT2.at_ 0 (u := .int .i64 s0) rfl; have t1 := BT2.at_ 1 (u := .bool s1) rfl; have t2 := BT2.at_ 2 (u := .int .u64 s2) rfl; have t3 := BT2.at_ 3 (u := .int .i64 s3) rfl; have t4 := BT2.at_ 4 (u := .bool i0) rfl; have t5 := BT2.at_ 5 (u := .int .i64 i1) rfl; have t6 := BT2.at_ 6 (u := .bool i2) rfl; have t7 := BT2.at_ 7 (u := .int .u64 i3) rfl; have t8 := BT2.at_ 8 (u := .int .i64 i4) rfl; have t9 := BT2.at_ 9 (u := .int .i64 i5) rfl; have t10 := BT2.at_ 10 (u := .bool i6) rfl; have t11 := BT2.at_ 11 (u := .int .u64 i7) rfl; have t12 := BT2.at_ 12 (u := .int .i64 i8) rfl; have t13 := BT2.at_ 13 (u := .slice A n c) rfl; clear hb HA))
    go_ret
    exact ⟨ret_boolC (by simp), HL1⟩
  cases m2
  · go_enter Try.func69, Try.ntmps69
    go_wp2_with (first
    | (go_at_call 106; (with_reducible refine (HN.out _).mono ?_); rintro e w1 ⟨rfl, hb⟩; have HL1 := bl_trans HL0 hb; have BT1 := BT0.call hb; have t0 := BT1.at_ 0 (u := .int .i64 s0) rfl; have t1 := BT1.at_ 1 (u := .bool s1) rfl; have t2 := BT1.at_ 2 (u := .int .u64 s2) rfl; have t3 := BT1.at_ 3 (u := .int .i64 s3) rfl; have t4 := BT1.at_ 4 (u := .bool i0) rfl; have t5 := BT1.at_ 5 (u := .int .i64 i1) rfl; have t6 := BT1.at_ 6 (u := .bool i2) rfl; have t7 := BT1.at_ 7 (u := .int .u64 i3) rfl; have t8 := BT1.at_ 8 (u := .int .i64 i4) rfl; have t9 := BT1.at_ 9 (u := .int .i64 i5) rfl; have t10 := BT1.at_ 10 (u := .bool i6) rfl; have t11 := BT1.at_ 11 (u := .int .u64 i7) rfl; have t12 := BT1.at_ 12 (u := .int .i64 i8) rfl; have t13 := BT1.at_ 13 (u := .slice A n c) rfl; clear hb HN)
    | (go_at_call 15; (with_reducible refine (HA.out _).mono ?_); rintro e w2 ⟨rfl, hb⟩; have HL2 := bl_trans HL1 hb; have BT2 := BT1.call hb; have hg3 : w.heap.size < w2.heap.size := Blk.lt BT2; clear t0 t1 t2 t3 t4 t5 t6 t7 t8 t9 t10 t11 t12 t13; have t0 := BT2.at_ 0 (u := .int .i64 s0) rfl; have t1 := BT2.at_ 1 (u := .bool s1) rfl; have t2 := BT2.at_ 2 (u := .int .u64 s2) rfl; have t3 := BT2.at_ 3 (u := .int .i64 s3) rfl; have t4 := BT2.at_ 4 (u := .bool i0) rfl; have t5 := BT2.at_ 5 (u := .int .i64 i1) rfl; have t6 := BT2.at_ 6 (u := .bool i2) rfl; have t7 := BT2.at_ 7 (u := .int .u64 i3) rfl; have t8 := BT2.at_ 8 (u := .int .i64 i4) rfl; have t9 := BT2.at_ 9 (u := .int .i64 i5) rfl; have t10 := BT2.at_ 10 (u := .bool i6) rfl; have t11 := BT2.at_ 11 (u := .int .u64 i7) rfl; have t12 := BT2.at_ 12 (u := .int .i64 i8) rfl; have t13 := BT2.at_ 13 (u := .slice A n c) rfl; clear hb HA))
    go_ret
    exact ⟨ret_boolC (by simp), HL2⟩
  by_cases h64 : n ≤ 64
  rotate_left
  · have h64' : (64 : Int) < (n : Int) := by omega
    go_enter Try.func69, Try.ntmps69
    go_wp2_with (first
    | (go_at_call 106; (with_reducible refine (HN.out _).mono ?_); rintro e w1 ⟨rfl, hb⟩; have HL1 := bl_trans HL0 hb; have BT1 := BT0.call hb; have t0 := BT1.at_ 0 (u := .int .i64 s0) rfl; have t1 := BT1.at_ 1 (u := .bool s1) rfl; have t2 := BT1.at_ 2 (u := .int .u64 s2) rfl; have t3 := BT1.at_ 3 (u := .int .i64 s3) rfl; have t4 := BT1.at_ 4 (u := .bool i0) rfl; have t5 := BT1.at_ 5 (u := .int .i64 i1) rfl; have t6 := BT1.at_ 6 (u := .bool i2) rfl; have t7 := BT1.at_ 7 (u := .int .u64 i3) rfl; have t8 := BT1.at_ 8 (u := .int .i64 i4) rfl; have t9 := BT1.at_ 9 (u := .int .i64 i5) rfl; have t10 := BT1.at_ 10 (u := .bool i6) rfl; have t11 := BT1.at_ 11 (u := .int .u64 i7) rfl; have t12 := BT1.at_ 12 (u := .int .i64 i8) rfl; have t13 := BT1.at_ 13 (u := .slice A n c) rfl; clear hb HN)
    | (go_at_call 15; (with_reducible refine (HA.out _).mono ?_); rintro e w2 ⟨rfl, hb⟩; have HL2 := bl_trans HL1 hb; have BT2 := BT1.call hb; have hg3 : w.heap.size < w2.heap.size := Blk.lt BT2; clear t0 t1 t2 t3 t4 t5 t6 t7 t8 t9 t10 t11 t12 t13; have t0 := BT2.at_ 0 (u := .int .i64 s0) rfl; have t1 := BT2.at_ 1 (u := .bool s1) rfl; have t2 := BT2.at_ 2 (u := .int .u64 s2) rfl; have t3 := BT2.at_ 3 (u := .int .i64 s3) rfl; have t4 := BT2.at_ 4 (u := .bool i0) rfl; have t5 := BT2.at_ 5 (u := .int .i64 i1) rfl; have t6 := BT2.at_ 6 (u := .bool i2) rfl; have t7 := BT2.at_ 7 (u := .int .u64 i3) rfl; have t8 := BT2.at_ 8 (u := .int .i64 i4) rfl; have t9 := BT2.at_ 9 (u := .int .i64 i5) rfl; have t10 := BT2.at_ 10 (u := .bool i6) rfl; have t11 := BT2.at_ 11 (u := .int .u64 i7) rfl; have t12 := BT2.at_ 12 (u := .int .i64 i8) rfl; have t13 := BT2.at_ 13 (u := .slice A n c) rfl; clear hb HA))
    go_ret
    exact ⟨ret_boolC (by simp [h64]), HL2⟩
  have h64' : ¬ (64 : Int) < (n : Int) := by omega
  rw [decide_eq_true h64]
  simp only [Bool.and_true, Bool.true_and]
  go_enter Try.func69, Try.ntmps69
  go_wp2_with (first
    | (go_at_call 106; (with_reducible refine (HN.out _).mono ?_); rintro e w1 ⟨rfl, hb⟩; have HL1 := bl_trans HL0 hb; have BT1 := BT0.call hb; have t0 := BT1.at_ 0 (u := .int .i64 s0) rfl; have t1 := BT1.at_ 1 (u := .bool s1) rfl; have t2 := BT1.at_ 2 (u := .int .u64 s2) rfl; have t3 := BT1.at_ 3 (u := .int .i64 s3) rfl; have t4 := BT1.at_ 4 (u := .bool i0) rfl; have t5 := BT1.at_ 5 (u := .int .i64 i1) rfl; have t6 := BT1.at_ 6 (u := .bool i2) rfl; have t7 := BT1.at_ 7 (u := .int .u64 i3) rfl; have t8 := BT1.at_ 8 (u := .int .i64 i4) rfl; have t9 := BT1.at_ 9 (u := .int .i64 i5) rfl; have t10 := BT1.at_ 10 (u := .bool i6) rfl; have t11 := BT1.at_ 11 (u := .int .u64 i7) rfl; have t12 := BT1.at_ 12 (u := .int .i64 i8) rfl; have t13 := BT1.at_ 13 (u := .slice A n c) rfl; clear hb HN)
    | (go_at_call 15; (with_reducible refine (HA.out _).mono ?_); rintro e w2 ⟨rfl, hb⟩; have HL2 := bl_trans HL1 hb; have BT2 := BT1.call hb; have hg3 : w.heap.size < w2.heap.size := Blk.lt BT2; clear t0 t1 t2 t3 t4 t5 t6 t7 t8 t9 t10 t11 t12 t13; have t0 := BT2.at_ 0 (u := .int .i64 s0) rfl; have t1 := BT2.at_ 1 (u := .bool s1) rfl; have t2 := BT2.at_ 2 (u := .int .u64 s2) rfl; have t3 := BT2.at_ 3 (u := .int .i64 s3) rfl; have t4 := BT2.at_ 4 (u := .bool i0) rfl; have t5 := BT2.at_ 5 (u := .int .i64 i1) rfl; have t6 := BT2.at_ 6 (u := .bool i2) rfl; have t7 := BT2.at_ 7 (u := .int .u64 i3) rfl; have t8 := BT2.at_ 8 (u := .int .i64 i4) rfl; have t9 := BT2.at_ 9 (u := .int .i64 i5) rfl; have t10 := BT2.at_ 10 (u := .bool i6) rfl; have t11 := BT2.at_ 11 (u := .int .u64 i7) rfl; have t12 := BT2.at_ 12 (u := .int .i64 i8) rfl; have t13 := BT2.at_ 13 (u := .slice A n c) rfl; clear hb HA))
  have HL3 := bl_alloc HL2 (.cells #[.int .i64 s0, .bool s1, .int .u64 s2, .int .i64 s3] 24)
  have BL3 := Blk.new w2 24 #[.int .i64 s0, .bool s1, .int .u64 s2, .int .i64 s3]
  have BT3 := BT2.alloc (.cells #[.int .i64 s0, .bool s1, .int .u64 s2, .int .i64 s3] 24)
  clear t0 t1 t2 t3 t4 t5 t6 t7 t8 t9 t10 t11 t12 t13
  generalize w2.heap.size = g at BL3 hg3 ⊢
  go_loopw [27] (fun i wr => ∃ k : Nat, ∃ last : Num, k ≤ n ∧ i = .int .i64 k ∧ maySl last (xs.drop k) = maySl ⟨s0, s1, s2, s3⟩ xs ∧ Blk wr g 24 #[.int .i64 last.k, .bool last.n, .int .u64 last.m, .int .i64 last.e] ∧ Blk wr w.heap.size 34 #[.int .i64 s0, .bool s1, .int .u64 s2, .int .i64 s3, .bool i0, .int .i64 i1, .bool i2, .int .u64 i3, .int .i64 i4, .int .i64 i5, .bool i6, .int .u64 i7, .int .i64 i8, .slice A n c] ∧ Below w.heap.size w wr) (fun i _ => n - (intOf i).toNat)
  case atStart => exact ⟨0, ⟨s0, s1, s2, s3⟩, Nat.zero_le _, rfl, rfl, BL3, BT3, HL3⟩
  case round =>
    obtain ⟨k, last, hk, rfl, hms, BL, BT, HB⟩ := hrel
    have hbs : w.heap.size ≤ wr.heap.size := HB.size
    by_cases hlt : k < n
    · obtain ⟨b, off, rfl, hbB, hcc⟩ := hs.2 (by omega)
      obtain ⟨x, hx⟩ : ∃ x, xs[k]? = some x := ⟨_, List.getElem?_eq_getElem (show k < xs.length by have := hs.1; omega)⟩
      have hcx := hcc k _ hx
      have hrg : World.rangeAt wr b (off + k * 22) (slcCells x) := fun j u hu => (HB.cell (p := ⟨b, _, none⟩) hbB).trans (hcx j u hu)
      rw [maySl_cons hx] at hms
      have HF := Lib.hid (fun W => finiteX_calls x.e W)
      have HC := Lib.hid (fun W => cmpX_calls x.e last W)
      have HA2 := Lib.hid (fun W => mayIX_calls x.a W)
      have HO2 := Lib.hid (fun W => mayIX_calls x.o W)
      have hgl : g < wr.heap.size := Blk.lt BL
      have hgt : w.heap.size < wr.heap.size := Blk.lt BT
      generalize whenN x.e = f1 at HF hms
      generalize cmpN x.e last = cm at HC hms
      generalize mayI x.a = f2 at HA2 hms
      generalize mayI x.o = f3 at HO2 hms
      clear hcc hx hcx hs
      cases f1
      · go_wp2_with (first
      | (refine wpList_loadT rfl (.tmp 29) rfl b (off + k * 22) rfl x hrg ?_)
      | (refine wpList_storeT rfl 88 (.tmp 5) (.tmp 30) rfl wr.heap.size _ (slcCells x).toArray (Blk.new wr _ _) rfl rfl (by kernel_rfl) rfl (slc_one x) ?_
         intro W1 BS1 hk1 hl1
         have HL4 := hl1 w.heap.size w hbs (bl_alloc HB _)
         have BL4 := hk1 _ _ _ (Nat.ne_of_lt hgl) (BL.alloc _)
         have BT4 := hk1 _ _ _ (Nat.ne_of_lt hgt) (BT.alloc _)
         have BS4 := BS1
         have y0 := BS1.at_ 0 (u := .int .i64 x.e.k) rfl; have y1 := BS1.at_ 1 (u := .bool x.e.n) rfl; have y2 := BS1.at_ 2 (u := .int .u64 x.e.m) rfl; have y3 := BS1.at_ 3 (u := .int .i64 x.e.e) rfl
         clear hk1 hl1 BS1)
      | (refine wpList_storeT rfl 24 (.tmp 3) (.tmp 55) rfl g _ #[.int .i64 x.e.k, .bool x.e.n, .int .u64 x.e.m, .int .i64 x.e.e] BL8 rfl rfl (by kernel_rfl) rfl (by simp [Value.oneCell']) ?_; intro W9 BL9 hk9 hl9; have HL9 := hl9 w.heap.size w (Nat.le_of_lt hg3) HL8; have BT9 := hk9 _ _ _ (Nat.ne_of_lt hg3) BT8; clear hk9 hl9)
      | (go_at_call 106; (with_reducible refine (HF.out _).mono ?_); rintro e W5 ⟨rfl, hb⟩; have HL5 := HL4.trans (hb.mono HL4.size); have BS5 := BS4.call hb; have BL5 := BL4.call hb; have BT5 := BT4.call hb; clear y0 y1 y2 y3; have y0 := BS5.at_ 0 (u := .int .i64 x.e.k) rfl; have y1 := BS5.at_ 1 (u := .bool x.e.n) rfl; have y2 := BS5.at_ 2 (u := .int .u64 x.e.m) rfl; have y3 := BS5.at_ 3 (u := .int .i64 x.e.e) rfl; obtain ⟨⟨l0, l1, l2, l3⟩, ⟨g0, g1, g2, g3⟩⟩ := BL5.c4; clear hb)
      | (go_at_call 31; (with_reducible refine (HC.out _).mono ?_); rintro e W6 ⟨rfl, hb⟩; have HL6 := HL5.trans (hb.mono HL5.size); have BS6 := BS5.call hb; have BL6 := BL5.call hb; have BT6 := BT5.call hb; clear y0 y1 y2 y3; clear l0 l1 l2 l3 g0 g1 g2 g3; have y4 := BS6.at_ 4 (u := .bool x.a.emp) rfl; have y5 := BS6.at_ 5 (u := .int .i64 x.a.lo.k) rfl; have y6 := BS6.at_ 6 (u := .bool x.a.lo.n) rfl; have y7 := BS6.at_ 7 (u := .int .u64 x.a.lo.m) rfl; have y8 := BS6.at_ 8 (u := .int .i64 x.a.lo.e) rfl; have y9 := BS6.at_ 9 (u := .int .i64 x.a.hi.k) rfl; have y10 := BS6.at_ 10 (u := .bool x.a.hi.n) rfl; have y11 := BS6.at_ 11 (u := .int .u64 x.a.hi.m) rfl; have y12 := BS6.at_ 12 (u := .int .i64 x.a.hi.e) rfl; clear hb)
      | (go_at_call 15; first | ((with_reducible refine (HA2.out _).mono ?_); rintro e W7 ⟨rfl, hb⟩; have HL7 := HL6.trans (hb.mono HL6.size); have BS7 := BS6.call hb; have BL7 := BL6.call hb; have BT7 := BT6.call hb; clear y4 y5 y6 y7 y8 y9 y10 y11 y12; have y13 := BS7.at_ 13 (u := .bool x.o.emp) rfl; have y14 := BS7.at_ 14 (u := .int .i64 x.o.lo.k) rfl; have y15 := BS7.at_ 15 (u := .bool x.o.lo.n) rfl; have y16 := BS7.at_ 16 (u := .int .u64 x.o.lo.m) rfl; have y17 := BS7.at_ 17 (u := .int .i64 x.o.lo.e) rfl; have y18 := BS7.at_ 18 (u := .int .i64 x.o.hi.k) rfl; have y19 := BS7.at_ 19 (u := .bool x.o.hi.n) rfl; have y20 := BS7.at_ 20 (u := .int .u64 x.o.hi.m) rfl; have y21 := BS7.at_ 21 (u := .int .i64 x.o.hi.e) rfl; clear hb) | ((with_reducible refine (HO2.out _).mono ?_); rintro e W8 ⟨rfl, hb⟩; have HL8 := HL7.trans (hb.mono HL7.size); have BS8 := BS7.call hb; have BL8 := BL7.call hb; have BT8 := BT7.call hb; clear y13 y14 y15 y16 y17 y18 y19 y20 y21; have y0 := BS8.at_ 0 (u := .int .i64 x.e.k) rfl; have y1 := BS8.at_ 1 (u := .bool x.e.n) rfl; have y2 := BS8.at_ 2 (u := .int .u64 x.e.m) rfl; have y3 := BS8.at_ 3 (u := .int .i64 x.e.e) rfl; clear hb)))
        go_ret
        exact ⟨ret_boolC (by rw [← hms]; simp), HL5⟩
      by_cases hcm : cm ≤ 0
      · go_wp2_with (first
      | (refine wpList_loadT rfl (.tmp 29) rfl b (off + k * 22) rfl x hrg ?_)
      | (refine wpList_storeT rfl 88 (.tmp 5) (.tmp 30) rfl wr.heap.size _ (slcCells x).toArray (Blk.new wr _ _) rfl rfl (by kernel_rfl) rfl (slc_one x) ?_
         intro W1 BS1 hk1 hl1
         have HL4 := hl1 w.heap.size w hbs (bl_alloc HB _)
         have BL4 := hk1 _ _ _ (Nat.ne_of_lt hgl) (BL.alloc _)
         have BT4 := hk1 _ _ _ (Nat.ne_of_lt hgt) (BT.alloc _)
         have BS4 := BS1
         have y0 := BS1.at_ 0 (u := .int .i64 x.e.k) rfl; have y1 := BS1.at_ 1 (u := .bool x.e.n) rfl; have y2 := BS1.at_ 2 (u := .int .u64 x.e.m) rfl; have y3 := BS1.at_ 3 (u := .int .i64 x.e.e) rfl
         clear hk1 hl1 BS1)
      | (refine wpList_storeT rfl 24 (.tmp 3) (.tmp 55) rfl g _ #[.int .i64 x.e.k, .bool x.e.n, .int .u64 x.e.m, .int .i64 x.e.e] BL8 rfl rfl (by kernel_rfl) rfl (by simp [Value.oneCell']) ?_; intro W9 BL9 hk9 hl9; have HL9 := hl9 w.heap.size w (Nat.le_of_lt hg3) HL8; have BT9 := hk9 _ _ _ (Nat.ne_of_lt hg3) BT8; clear hk9 hl9)
      | (go_at_call 106; (with_reducible refine (HF.out _).mono ?_); rintro e W5 ⟨rfl, hb⟩; have HL5 := HL4.trans (hb.mono HL4.size); have BS5 := BS4.call hb; have BL5 := BL4.call hb; have BT5 := BT4.call hb; clear y0 y1 y2 y3; have y0 := BS5.at_ 0 (u := .int .i64 x.e.k) rfl; have y1 := BS5.at_ 1 (u := .bool x.e.n) rfl; have y2 := BS5.at_ 2 (u := .int .u64 x.e.m) rfl; have y3 := BS5.at_ 3 (u := .int .i64 x.e.e) rfl; obtain ⟨⟨l0, l1, l2, l3⟩, ⟨g0, g1, g2, g3⟩⟩ := BL5.c4; clear hb)
      | (go_at_call 31; (with_reducible refine (HC.out _).mono ?_); rintro e W6 ⟨rfl, hb⟩; have HL6 := HL5.trans (hb.mono HL5.size); have BS6 := BS5.call hb; have BL6 := BL5.call hb; have BT6 := BT5.call hb; clear y0 y1 y2 y3; clear l0 l1 l2 l3 g0 g1 g2 g3; have y4 := BS6.at_ 4 (u := .bool x.a.emp) rfl; have y5 := BS6.at_ 5 (u := .int .i64 x.a.lo.k) rfl; have y6 := BS6.at_ 6 (u := .bool x.a.lo.n) rfl; have y7 := BS6.at_ 7 (u := .int .u64 x.a.lo.m) rfl; have y8 := BS6.at_ 8 (u := .int .i64 x.a.lo.e) rfl; have y9 := BS6.at_ 9 (u := .int .i64 x.a.hi.k) rfl; have y10 := BS6.at_ 10 (u := .bool x.a.hi.n) rfl; have y11 := BS6.at_ 11 (u := .int .u64 x.a.hi.m) rfl; have y12 := BS6.at_ 12 (u := .int .i64 x.a.hi.e) rfl; clear hb)
      | (go_at_call 15; first | ((with_reducible refine (HA2.out _).mono ?_); rintro e W7 ⟨rfl, hb⟩; have HL7 := HL6.trans (hb.mono HL6.size); have BS7 := BS6.call hb; have BL7 := BL6.call hb; have BT7 := BT6.call hb; clear y4 y5 y6 y7 y8 y9 y10 y11 y12; have y13 := BS7.at_ 13 (u := .bool x.o.emp) rfl; have y14 := BS7.at_ 14 (u := .int .i64 x.o.lo.k) rfl; have y15 := BS7.at_ 15 (u := .bool x.o.lo.n) rfl; have y16 := BS7.at_ 16 (u := .int .u64 x.o.lo.m) rfl; have y17 := BS7.at_ 17 (u := .int .i64 x.o.lo.e) rfl; have y18 := BS7.at_ 18 (u := .int .i64 x.o.hi.k) rfl; have y19 := BS7.at_ 19 (u := .bool x.o.hi.n) rfl; have y20 := BS7.at_ 20 (u := .int .u64 x.o.hi.m) rfl; have y21 := BS7.at_ 21 (u := .int .i64 x.o.hi.e) rfl; clear hb) | ((with_reducible refine (HO2.out _).mono ?_); rintro e W8 ⟨rfl, hb⟩; have HL8 := HL7.trans (hb.mono HL7.size); have BS8 := BS7.call hb; have BL8 := BL7.call hb; have BT8 := BT7.call hb; clear y13 y14 y15 y16 y17 y18 y19 y20 y21; have y0 := BS8.at_ 0 (u := .int .i64 x.e.k) rfl; have y1 := BS8.at_ 1 (u := .bool x.e.n) rfl; have y2 := BS8.at_ 2 (u := .int .u64 x.e.m) rfl; have y3 := BS8.at_ 3 (u := .int .i64 x.e.e) rfl; clear hb)))
        go_ret
        exact ⟨ret_boolC (by rw [← hms]; simp [show ¬ 0 < cm by omega]), HL6⟩
      cases f2
      · go_wp2_with (first
      | (refine wpList_loadT rfl (.tmp 29) rfl b (off + k * 22) rfl x hrg ?_)
      | (refine wpList_storeT rfl 88 (.tmp 5) (.tmp 30) rfl wr.heap.size _ (slcCells x).toArray (Blk.new wr _ _) rfl rfl (by kernel_rfl) rfl (slc_one x) ?_
         intro W1 BS1 hk1 hl1
         have HL4 := hl1 w.heap.size w hbs (bl_alloc HB _)
         have BL4 := hk1 _ _ _ (Nat.ne_of_lt hgl) (BL.alloc _)
         have BT4 := hk1 _ _ _ (Nat.ne_of_lt hgt) (BT.alloc _)
         have BS4 := BS1
         have y0 := BS1.at_ 0 (u := .int .i64 x.e.k) rfl; have y1 := BS1.at_ 1 (u := .bool x.e.n) rfl; have y2 := BS1.at_ 2 (u := .int .u64 x.e.m) rfl; have y3 := BS1.at_ 3 (u := .int .i64 x.e.e) rfl
         clear hk1 hl1 BS1)
      | (refine wpList_storeT rfl 24 (.tmp 3) (.tmp 55) rfl g _ #[.int .i64 x.e.k, .bool x.e.n, .int .u64 x.e.m, .int .i64 x.e.e] BL8 rfl rfl (by kernel_rfl) rfl (by simp [Value.oneCell']) ?_; intro W9 BL9 hk9 hl9; have HL9 := hl9 w.heap.size w (Nat.le_of_lt hg3) HL8; have BT9 := hk9 _ _ _ (Nat.ne_of_lt hg3) BT8; clear hk9 hl9)
      | (go_at_call 106; (with_reducible refine (HF.out _).mono ?_); rintro e W5 ⟨rfl, hb⟩; have HL5 := HL4.trans (hb.mono HL4.size); have BS5 := BS4.call hb; have BL5 := BL4.call hb; have BT5 := BT4.call hb; clear y0 y1 y2 y3; have y0 := BS5.at_ 0 (u := .int .i64 x.e.k) rfl; have y1 := BS5.at_ 1 (u := .bool x.e.n) rfl; have y2 := BS5.at_ 2 (u := .int .u64 x.e.m) rfl; have y3 := BS5.at_ 3 (u := .int .i64 x.e.e) rfl; obtain ⟨⟨l0, l1, l2, l3⟩, ⟨g0, g1, g2, g3⟩⟩ := BL5.c4; clear hb)
      | (go_at_call 31; (with_reducible refine (HC.out _).mono ?_); rintro e W6 ⟨rfl, hb⟩; have HL6 := HL5.trans (hb.mono HL5.size); have BS6 := BS5.call hb; have BL6 := BL5.call hb; have BT6 := BT5.call hb; clear y0 y1 y2 y3; clear l0 l1 l2 l3 g0 g1 g2 g3; have y4 := BS6.at_ 4 (u := .bool x.a.emp) rfl; have y5 := BS6.at_ 5 (u := .int .i64 x.a.lo.k) rfl; have y6 := BS6.at_ 6 (u := .bool x.a.lo.n) rfl; have y7 := BS6.at_ 7 (u := .int .u64 x.a.lo.m) rfl; have y8 := BS6.at_ 8 (u := .int .i64 x.a.lo.e) rfl; have y9 := BS6.at_ 9 (u := .int .i64 x.a.hi.k) rfl; have y10 := BS6.at_ 10 (u := .bool x.a.hi.n) rfl; have y11 := BS6.at_ 11 (u := .int .u64 x.a.hi.m) rfl; have y12 := BS6.at_ 12 (u := .int .i64 x.a.hi.e) rfl; clear hb)
      | (go_at_call 15; first | ((with_reducible refine (HA2.out _).mono ?_); rintro e W7 ⟨rfl, hb⟩; have HL7 := HL6.trans (hb.mono HL6.size); have BS7 := BS6.call hb; have BL7 := BL6.call hb; have BT7 := BT6.call hb; clear y4 y5 y6 y7 y8 y9 y10 y11 y12; have y13 := BS7.at_ 13 (u := .bool x.o.emp) rfl; have y14 := BS7.at_ 14 (u := .int .i64 x.o.lo.k) rfl; have y15 := BS7.at_ 15 (u := .bool x.o.lo.n) rfl; have y16 := BS7.at_ 16 (u := .int .u64 x.o.lo.m) rfl; have y17 := BS7.at_ 17 (u := .int .i64 x.o.lo.e) rfl; have y18 := BS7.at_ 18 (u := .int .i64 x.o.hi.k) rfl; have y19 := BS7.at_ 19 (u := .bool x.o.hi.n) rfl; have y20 := BS7.at_ 20 (u := .int .u64 x.o.hi.m) rfl; have y21 := BS7.at_ 21 (u := .int .i64 x.o.hi.e) rfl; clear hb) | ((with_reducible refine (HO2.out _).mono ?_); rintro e W8 ⟨rfl, hb⟩; have HL8 := HL7.trans (hb.mono HL7.size); have BS8 := BS7.call hb; have BL8 := BL7.call hb; have BT8 := BT7.call hb; clear y13 y14 y15 y16 y17 y18 y19 y20 y21; have y0 := BS8.at_ 0 (u := .int .i64 x.e.k) rfl; have y1 := BS8.at_ 1 (u := .bool x.e.n) rfl; have y2 := BS8.at_ 2 (u := .int .u64 x.e.m) rfl; have y3 := BS8.at_ 3 (u := .int .i64 x.e.e) rfl; clear hb)))
        go_ret
        exact ⟨ret_boolC (by rw [← hms]; simp), HL7⟩
      cases f3
      · go_wp2_with (first
      | (refine wpList_loadT rfl (.tmp 29) rfl b (off + k * 22) rfl x hrg ?_)
      | (refine wpList_storeT rfl 88 (.tmp 5) (.tmp 30) rfl wr.heap.size _ (slcCells x).toArray (Blk.new wr _ _) rfl rfl (by kernel_rfl) rfl (slc_one x) ?_
         intro W1 BS1 hk1 hl1
         have HL4 := hl1 w.heap.size w hbs (bl_alloc HB _)
         have BL4 := hk1 _ _ _ (Nat.ne_of_lt hgl) (BL.alloc _)
         have BT4 := hk1 _ _ _ (Nat.ne_of_lt hgt) (BT.alloc _)
         have BS4 := BS1
         have y0 := BS1.at_ 0 (u := .int .i64 x.e.k) rfl; have y1 := BS1.at_ 1 (u := .bool x.e.n) rfl; have y2 := BS1.at_ 2 (u := .int .u64 x.e.m) rfl; have y3 := BS1.at_ 3 (u := .int .i64 x.e.e) rfl
         clear hk1 hl1 BS1)
      | (refine wpList_storeT rfl 24 (.tmp 3) (.tmp 55) rfl g _ #[.int .i64 x.e.k, .bool x.e.n, .int .u64 x.e.m, .int .i64 x.e.e] BL8 rfl rfl (by kernel_rfl) rfl (by simp [Value.oneCell']) ?_; intro W9 BL9 hk9 hl9; have HL9 := hl9 w.heap.size w (Nat.le_of_lt hg3) HL8; have BT9 := hk9 _ _ _ (Nat.ne_of_lt hg3) BT8; clear hk9 hl9)
      | (go_at_call 106; (with_reducible refine (HF.out _).mono ?_); rintro e W5 ⟨rfl, hb⟩; have HL5 := HL4.trans (hb.mono HL4.size); have BS5 := BS4.call hb; have BL5 := BL4.call hb; have BT5 := BT4.call hb; clear y0 y1 y2 y3; have y0 := BS5.at_ 0 (u := .int .i64 x.e.k) rfl; have y1 := BS5.at_ 1 (u := .bool x.e.n) rfl; have y2 := BS5.at_ 2 (u := .int .u64 x.e.m) rfl; have y3 := BS5.at_ 3 (u := .int .i64 x.e.e) rfl; obtain ⟨⟨l0, l1, l2, l3⟩, ⟨g0, g1, g2, g3⟩⟩ := BL5.c4; clear hb)
      | (go_at_call 31; (with_reducible refine (HC.out _).mono ?_); rintro e W6 ⟨rfl, hb⟩; have HL6 := HL5.trans (hb.mono HL5.size); have BS6 := BS5.call hb; have BL6 := BL5.call hb; have BT6 := BT5.call hb; clear y0 y1 y2 y3; clear l0 l1 l2 l3 g0 g1 g2 g3; have y4 := BS6.at_ 4 (u := .bool x.a.emp) rfl; have y5 := BS6.at_ 5 (u := .int .i64 x.a.lo.k) rfl; have y6 := BS6.at_ 6 (u := .bool x.a.lo.n) rfl; have y7 := BS6.at_ 7 (u := .int .u64 x.a.lo.m) rfl; have y8 := BS6.at_ 8 (u := .int .i64 x.a.lo.e) rfl; have y9 := BS6.at_ 9 (u := .int .i64 x.a.hi.k) rfl; have y10 := BS6.at_ 10 (u := .bool x.a.hi.n) rfl; have y11 := BS6.at_ 11 (u := .int .u64 x.a.hi.m) rfl; have y12 := BS6.at_ 12 (u := .int .i64 x.a.hi.e) rfl; clear hb)
      | (go_at_call 15; first | ((with_reducible refine (HA2.out _).mono ?_); rintro e W7 ⟨rfl, hb⟩; have HL7 := HL6.trans (hb.mono HL6.size); have BS7 := BS6.call hb; have BL7 := BL6.call hb; have BT7 := BT6.call hb; clear y4 y5 y6 y7 y8 y9 y10 y11 y12; have y13 := BS7.at_ 13 (u := .bool x.o.emp) rfl; have y14 := BS7.at_ 14 (u := .int .i64 x.o.lo.k) rfl; have y15 := BS7.at_ 15 (u := .bool x.o.lo.n) rfl; have y16 := BS7.at_ 16 (u := .int .u64 x.o.lo.m) rfl; have y17 := BS7.at_ 17 (u := .int .i64 x.o.lo.e) rfl; have y18 := BS7.at_ 18 (u := .int .i64 x.o.hi.k) rfl; have y19 := BS7.at_ 19 (u := .bool x.o.hi.n) rfl; have y20 := BS7.at_ 20 (u := .int .u64 x.o.hi.m) rfl; have y21 := BS7.at_ 21 (u := .int .i64 x.o.hi.e) rfl; clear hb) | ((with_reducible refine (HO2.out _).mono ?_); rintro e W8 ⟨rfl, hb⟩; have HL8 := HL7.trans (hb.mono HL7.size); have BS8 := BS7.call hb; have BL8 := BL7.call hb; have BT8 := BT7.call hb; clear y13 y14 y15 y16 y17 y18 y19 y20 y21; have y0 := BS8.at_ 0 (u := .int .i64 x.e.k) rfl; have y1 := BS8.at_ 1 (u := .bool x.e.n) rfl; have y2 := BS8.at_ 2 (u := .int .u64 x.e.m) rfl; have y3 := BS8.at_ 3 (u := .int .i64 x.e.e) rfl; clear hb)))
        go_ret
        exact ⟨ret_boolC (by rw [← hms]; simp), HL8⟩
      go_wp2_with (first
      | (refine wpList_loadT rfl (.tmp 29) rfl b (off + k * 22) rfl x hrg ?_)
      | (refine wpList_storeT rfl 88 (.tmp 5) (.tmp 30) rfl wr.heap.size _ (slcCells x).toArray (Blk.new wr _ _) rfl rfl (by kernel_rfl) rfl (slc_one x) ?_
         intro W1 BS1 hk1 hl1
         have HL4 := hl1 w.heap.size w hbs (bl_alloc HB _)
         have BL4 := hk1 _ _ _ (Nat.ne_of_lt hgl) (BL.alloc _)
         have BT4 := hk1 _ _ _ (Nat.ne_of_lt hgt) (BT.alloc _)
         have BS4 := BS1
         have y0 := BS1.at_ 0 (u := .int .i64 x.e.k) rfl; have y1 := BS1.at_ 1 (u := .bool x.e.n) rfl; have y2 := BS1.at_ 2 (u := .int .u64 x.e.m) rfl; have y3 := BS1.at_ 3 (u := .int .i64 x.e.e) rfl
         clear hk1 hl1 BS1)
      | (refine wpList_storeT rfl 24 (.tmp 3) (.tmp 55) rfl g _ #[.int .i64 x.e.k, .bool x.e.n, .int .u64 x.e.m, .int .i64 x.e.e] BL8 rfl rfl (by kernel_rfl) rfl (by simp [Value.oneCell']) ?_; intro W9 BL9 hk9 hl9; have HL9 := hl9 w.heap.size w (Nat.le_of_lt hg3) HL8; have BT9 := hk9 _ _ _ (Nat.ne_of_lt hg3) BT8; clear hk9 hl9)
      | (go_at_call 106; (with_reducible refine (HF.out _).mono ?_); rintro e W5 ⟨rfl, hb⟩; have HL5 := HL4.trans (hb.mono HL4.size); have BS5 := BS4.call hb; have BL5 := BL4.call hb; have BT5 := BT4.call hb; clear y0 y1 y2 y3; have y0 := BS5.at_ 0 (u := .int .i64 x.e.k) rfl; have y1 := BS5.at_ 1 (u := .bool x.e.n) rfl; have y2 := BS5.at_ 2 (u := .int .u64 x.e.m) rfl; have y3 := BS5.at_ 3 (u := .int .i64 x.e.e) rfl; obtain ⟨⟨l0, l1, l2, l3⟩, ⟨g0, g1, g2, g3⟩⟩ := BL5.c4; clear hb)
      | (go_at_call 31; (with_reducible refine (HC.out _).mono ?_); rintro e W6 ⟨rfl, hb⟩; have HL6 := HL5.trans (hb.mono HL5.size); have BS6 := BS5.call hb; have BL6 := BL5.call hb; have BT6 := BT5.call hb; clear y0 y1 y2 y3; clear l0 l1 l2 l3 g0 g1 g2 g3; have y4 := BS6.at_ 4 (u := .bool x.a.emp) rfl; have y5 := BS6.at_ 5 (u := .int .i64 x.a.lo.k) rfl; have y6 := BS6.at_ 6 (u := .bool x.a.lo.n) rfl; have y7 := BS6.at_ 7 (u := .int .u64 x.a.lo.m) rfl; have y8 := BS6.at_ 8 (u := .int .i64 x.a.lo.e) rfl; have y9 := BS6.at_ 9 (u := .int .i64 x.a.hi.k) rfl; have y10 := BS6.at_ 10 (u := .bool x.a.hi.n) rfl; have y11 := BS6.at_ 11 (u := .int .u64 x.a.hi.m) rfl; have y12 := BS6.at_ 12 (u := .int .i64 x.a.hi.e) rfl; clear hb)
      | (go_at_call 15; first | ((with_reducible refine (HA2.out _).mono ?_); rintro e W7 ⟨rfl, hb⟩; have HL7 := HL6.trans (hb.mono HL6.size); have BS7 := BS6.call hb; have BL7 := BL6.call hb; have BT7 := BT6.call hb; clear y4 y5 y6 y7 y8 y9 y10 y11 y12; have y13 := BS7.at_ 13 (u := .bool x.o.emp) rfl; have y14 := BS7.at_ 14 (u := .int .i64 x.o.lo.k) rfl; have y15 := BS7.at_ 15 (u := .bool x.o.lo.n) rfl; have y16 := BS7.at_ 16 (u := .int .u64 x.o.lo.m) rfl; have y17 := BS7.at_ 17 (u := .int .i64 x.o.lo.e) rfl; have y18 := BS7.at_ 18 (u := .int .i64 x.o.hi.k) rfl; have y19 := BS7.at_ 19 (u := .bool x.o.hi.n) rfl; have y20 := BS7.at_ 20 (u := .int .u64 x.o.hi.m) rfl; have y21 := BS7.at_ 21 (u := .int .i64 x.o.hi.e) rfl; clear hb) | ((with_reducible refine (HO2.out _).mono ?_); rintro e W8 ⟨rfl, hb⟩; have HL8 := HL7.trans (hb.mono HL7.size); have BS8 := BS7.call hb; have BL8 := BL7.call hb; have BT8 := BT7.call hb; clear y13 y14 y15 y16 y17 y18 y19 y20 y21; have y0 := BS8.at_ 0 (u := .int .i64 x.e.k) rfl; have y1 := BS8.at_ 1 (u := .bool x.e.n) rfl; have y2 := BS8.at_ 2 (u := .int .u64 x.e.m) rfl; have y3 := BS8.at_ 3 (u := .int .i64 x.e.e) rfl; clear hb)))
      go_roundw
      case rel => exact ⟨k + 1, x.e, by omega, by go_num, by rw [← hms]; simp [show 0 < cm by omega], BL9, BT9, HL9⟩
      case measure => simp [intOf] <;> omega
    · have hkn : n = k := by omega
      subst hkn
      rw [drop_end hs.1] at hms
      have Hms := Lib.hid hms
      clear hms
      go_wp2
      go_ret
      exact ⟨ret_boolC Hms.out, HB⟩



set_option maxRecDepth 100000 in
set_option maxHeartbeats 8000000 in
theorem r17may_calls (s0 : Int) (s1 : Bool) (s2 s3 : Int) (i0 : Bool) (i1 : Int) (i2 : Bool) (i3 i4 i5 : Int) (i6 : Bool) (i7 i8 : Int) (A : Option Addr) (n c : Nat) (xs : List Slc) (w : World) (hs : SlT w w.heap.size A n xs) :
    Calls Try.prog 79 #[.agg #[.int .i64 s0, .bool s1, .int .u64 s2, .int .i64 s3, .bool i0, .int .i64 i1, .bool i2, .int .u64 i3, .int .i64 i4, .int .i64 i5, .bool i6, .int .u64 i7, .int .i64 i8, .slice A n c]] w fun e w' => e = .returned (.bool (mayT ⟨⟨s0, s1, s2, s3⟩, ⟨i0, ⟨i1, i2, i3, i4⟩, ⟨i5, i6, i7, i8⟩⟩, xs⟩)) ∧ Below w.heap.size w w' := by
  unfold mayT
  dsimp only
  rw [show xs.length = n from hs.1]
  have HN := Lib.hid (fun W => when_calls s0 s1 s2 s3 W)
  have HA := Lib.hid (fun W => r8may_calls i0 i1 i2 i3 i4 i5 i6 i7 i8 W)
  generalize whenN ⟨s0, s1, s2, s3⟩ = m1 at HN ⊢
  generalize mayI ⟨i0, ⟨i1, i2, i3, i4⟩, ⟨i5, i6, i7, i8⟩⟩ = m2 at HA ⊢
  have HL0 := bl_alloc (Below.refl w.heap.size w) (.cells #[.int .i64 s0, .bool s1, .int .u64 s2, .int .i64 s3, .bool i0, .int .i64 i1, .bool i2, .int .u64 i3, .int .i64 i4, .int .i64 i5, .bool i6, .int .u64 i7, .int .i64 i8, .slice A n c] 34)
  have BT0 := Blk.new w 34 #[.int .i64 s0, .bool s1, .int .u64 s2, .int .i64 s3, .bool i0, .int .i64 i1, .bool i2, .int .u64 i3, .int .i64 i4, .int .i64 i5, .bool i6, .int .u64 i7, .int .i64 i8, .slice A n c]
  cases m1
  · go_enter Try.func79, Try.ntmps79
    go_wp2_with (first
    | (go_at_call 113; (with_reducible refine (HN.out _).mono ?_); rintro e w1 ⟨rfl, hb⟩; have HL1 := bl_trans HL0 hb; have BT1 := BT0.call hb; have t0 := BT1.at_ 0 (u := .int .i64 s0) rfl; have t1 := BT1.at_ 1 (u := .bool s1) rfl; have t2 := BT1.at_ 2 (u := .int .u64 s2) rfl; have t3 := BT1.at_ 3 (u := .int .i64 s3) rfl; have t4 := BT1.at_ 4 (u := .bool i0) rfl; have t5 := BT1.at_ 5 (u := .int .i64 i1) rfl; have t6 := BT1.at_ 6 (u := .bool i2) rfl; have t7 := BT1.at_ 7 (u := .int .u64 i3) rfl; have t8 := BT1.at_ 8 (u := .int .i64 i4) rfl; have t9 := BT1.at_ 9 (u := .int .i64 i5) rfl; have t10 := BT1.at_ 10 (u := .bool i6) rfl; have t11 := BT1.at_ 11 (u := .int .u64 i7) rfl; have t12 := BT1.at_ 12 (u := .int .i64 i8) rfl; have t13 := BT1.at_ 13 (u := .slice A n c) rfl; clear hb HN)
    | (go_at_call 112; (with_reducible refine (HA.out _).mono ?_); rintro e w2 ⟨rfl, hb⟩; have HL2 := bl_trans HL1 hb; have BT2 := BT1.call hb; have hg3 : w.heap.size < w2.heap.size := Blk.lt BT2; clear t0 t1 t2 t3 t4 t5 t6 t7 t8 t9 t10 t11 t12 t13; have t0 := BT2.at_ 0 (u := .int .i64 s0) rfl; have t1 := BT2.at_ 1 (u := .bool s1) rfl; have t2 := BT2.at_ 2 (u := .int .u64 s2) rfl; have t3 := BT2.at_ 3 (u := .int .i64 s3) rfl; have t4 := BT2.at_ 4 (u := .bool i0) rfl; have t5 := BT2.at_ 5 (u := .int .i64 i1) rfl; have t6 := BT2.at_ 6 (u := .bool i2) rfl; have t7 := BT2.at_ 7 (u := .int .u64 i3) rfl; have t8 := BT2.at_ 8 (u := .int .i64 i4) rfl; have t9 := BT2.at_ 9 (u := .int .i64 i5) rfl; have t10 := BT2.at_ 10 (u := .bool i6) rfl; have t11 := BT2.at_ 11 (u := .int .u64 i7) rfl; have t12 := BT2.at_ 12 (u := .int .i64 i8) rfl; have t13 := BT2.at_ 13 (u := .slice A n c) rfl; clear hb HA))
    go_ret
    exact ⟨ret_boolC (by simp), HL2⟩
  cases m2
  · go_enter Try.func79, Try.ntmps79
    go_wp2_with (first
    | (go_at_call 113; (with_reducible refine (HN.out _).mono ?_); rintro e w1 ⟨rfl, hb⟩; have HL1 := bl_trans HL0 hb; have BT1 := BT0.call hb; have t0 := BT1.at_ 0 (u := .int .i64 s0) rfl; have t1 := BT1.at_ 1 (u := .bool s1) rfl; have t2 := BT1.at_ 2 (u := .int .u64 s2) rfl; have t3 := BT1.at_ 3 (u := .int .i64 s3) rfl; have t4 := BT1.at_ 4 (u := .bool i0) rfl; have t5 := BT1.at_ 5 (u := .int .i64 i1) rfl; have t6 := BT1.at_ 6 (u := .bool i2) rfl; have t7 := BT1.at_ 7 (u := .int .u64 i3) rfl; have t8 := BT1.at_ 8 (u := .int .i64 i4) rfl; have t9 := BT1.at_ 9 (u := .int .i64 i5) rfl; have t10 := BT1.at_ 10 (u := .bool i6) rfl; have t11 := BT1.at_ 11 (u := .int .u64 i7) rfl; have t12 := BT1.at_ 12 (u := .int .i64 i8) rfl; have t13 := BT1.at_ 13 (u := .slice A n c) rfl; clear hb HN)
    | (go_at_call 112; (with_reducible refine (HA.out _).mono ?_); rintro e w2 ⟨rfl, hb⟩; have HL2 := bl_trans HL1 hb; have BT2 := BT1.call hb; have hg3 : w.heap.size < w2.heap.size := Blk.lt BT2; clear t0 t1 t2 t3 t4 t5 t6 t7 t8 t9 t10 t11 t12 t13; have t0 := BT2.at_ 0 (u := .int .i64 s0) rfl; have t1 := BT2.at_ 1 (u := .bool s1) rfl; have t2 := BT2.at_ 2 (u := .int .u64 s2) rfl; have t3 := BT2.at_ 3 (u := .int .i64 s3) rfl; have t4 := BT2.at_ 4 (u := .bool i0) rfl; have t5 := BT2.at_ 5 (u := .int .i64 i1) rfl; have t6 := BT2.at_ 6 (u := .bool i2) rfl; have t7 := BT2.at_ 7 (u := .int .u64 i3) rfl; have t8 := BT2.at_ 8 (u := .int .i64 i4) rfl; have t9 := BT2.at_ 9 (u := .int .i64 i5) rfl; have t10 := BT2.at_ 10 (u := .bool i6) rfl; have t11 := BT2.at_ 11 (u := .int .u64 i7) rfl; have t12 := BT2.at_ 12 (u := .int .i64 i8) rfl; have t13 := BT2.at_ 13 (u := .slice A n c) rfl; clear hb HA))
    go_ret
    exact ⟨ret_boolC (by simp), HL2⟩
  by_cases h64 : n ≤ 64
  rotate_left
  · have h64' : (64 : Int) < (n : Int) := by omega
    go_enter Try.func79, Try.ntmps79
    go_wp2_with (first
    | (go_at_call 113; (with_reducible refine (HN.out _).mono ?_); rintro e w1 ⟨rfl, hb⟩; have HL1 := bl_trans HL0 hb; have BT1 := BT0.call hb; have t0 := BT1.at_ 0 (u := .int .i64 s0) rfl; have t1 := BT1.at_ 1 (u := .bool s1) rfl; have t2 := BT1.at_ 2 (u := .int .u64 s2) rfl; have t3 := BT1.at_ 3 (u := .int .i64 s3) rfl; have t4 := BT1.at_ 4 (u := .bool i0) rfl; have t5 := BT1.at_ 5 (u := .int .i64 i1) rfl; have t6 := BT1.at_ 6 (u := .bool i2) rfl; have t7 := BT1.at_ 7 (u := .int .u64 i3) rfl; have t8 := BT1.at_ 8 (u := .int .i64 i4) rfl; have t9 := BT1.at_ 9 (u := .int .i64 i5) rfl; have t10 := BT1.at_ 10 (u := .bool i6) rfl; have t11 := BT1.at_ 11 (u := .int .u64 i7) rfl; have t12 := BT1.at_ 12 (u := .int .i64 i8) rfl; have t13 := BT1.at_ 13 (u := .slice A n c) rfl; clear hb HN)
    | (go_at_call 112; (with_reducible refine (HA.out _).mono ?_); rintro e w2 ⟨rfl, hb⟩; have HL2 := bl_trans HL1 hb; have BT2 := BT1.call hb; have hg3 : w.heap.size < w2.heap.size := Blk.lt BT2; clear t0 t1 t2 t3 t4 t5 t6 t7 t8 t9 t10 t11 t12 t13; have t0 := BT2.at_ 0 (u := .int .i64 s0) rfl; have t1 := BT2.at_ 1 (u := .bool s1) rfl; have t2 := BT2.at_ 2 (u := .int .u64 s2) rfl; have t3 := BT2.at_ 3 (u := .int .i64 s3) rfl; have t4 := BT2.at_ 4 (u := .bool i0) rfl; have t5 := BT2.at_ 5 (u := .int .i64 i1) rfl; have t6 := BT2.at_ 6 (u := .bool i2) rfl; have t7 := BT2.at_ 7 (u := .int .u64 i3) rfl; have t8 := BT2.at_ 8 (u := .int .i64 i4) rfl; have t9 := BT2.at_ 9 (u := .int .i64 i5) rfl; have t10 := BT2.at_ 10 (u := .bool i6) rfl; have t11 := BT2.at_ 11 (u := .int .u64 i7) rfl; have t12 := BT2.at_ 12 (u := .int .i64 i8) rfl; have t13 := BT2.at_ 13 (u := .slice A n c) rfl; clear hb HA))
    go_ret
    exact ⟨ret_boolC (by simp [h64]), HL2⟩
  have h64' : ¬ (64 : Int) < (n : Int) := by omega
  rw [decide_eq_true h64]
  simp only [Bool.and_true, Bool.true_and]
  go_enter Try.func79, Try.ntmps79
  go_wp2_with (first
    | (go_at_call 113; (with_reducible refine (HN.out _).mono ?_); rintro e w1 ⟨rfl, hb⟩; have HL1 := bl_trans HL0 hb; have BT1 := BT0.call hb; have t0 := BT1.at_ 0 (u := .int .i64 s0) rfl; have t1 := BT1.at_ 1 (u := .bool s1) rfl; have t2 := BT1.at_ 2 (u := .int .u64 s2) rfl; have t3 := BT1.at_ 3 (u := .int .i64 s3) rfl; have t4 := BT1.at_ 4 (u := .bool i0) rfl; have t5 := BT1.at_ 5 (u := .int .i64 i1) rfl; have t6 := BT1.at_ 6 (u := .bool i2) rfl; have t7 := BT1.at_ 7 (u := .int .u64 i3) rfl; have t8 := BT1.at_ 8 (u := .int .i64 i4) rfl; have t9 := BT1.at_ 9 (u := .int .i64 i5) rfl; have t10 := BT1.at_ 10 (u := .bool i6) rfl; have t11 := BT1.at_ 11 (u := .int .u64 i7) rfl; have t12 := BT1.at_ 12 (u := .int .i64 i8) rfl; have t13 := BT1.at_ 13 (u := .slice A n c) rfl; clear hb HN)
    | (go_at_call 112; (with_reducible refine (HA.out _).mono ?_); rintro e w2 ⟨rfl, hb⟩; have HL2 := bl_trans HL1 hb; have BT2 := BT1.call hb; have hg3 : w.heap.size < w2.heap.size := Blk.lt BT2; clear t0 t1 t2 t3 t4 t5 t6 t7 t8 t9 t10 t11 t12 t13; have t0 := BT2.at_ 0 (u := .int .i64 s0) rfl; have t1 := BT2.at_ 1 (u := .bool s1) rfl; have t2 := BT2.at_ 2 (u := .int .u64 s2) rfl; have t3 := BT2.at_ 3 (u := .int .i64 s3) rfl; have t4 := BT2.at_ 4 (u := .bool i0) rfl; have t5 := BT2.at_ 5 (u := .int .i64 i1) rfl; have t6 := BT2.at_ 6 (u := .bool i2) rfl; have t7 := BT2.at_ 7 (u := .int .u64 i3) rfl; have t8 := BT2.at_ 8 (u := .int .i64 i4) rfl; have t9 := BT2.at_ 9 (u := .int .i64 i5) rfl; have t10 := BT2.at_ 10 (u := .bool i6) rfl; have t11 := BT2.at_ 11 (u := .int .u64 i7) rfl; have t12 := BT2.at_ 12 (u := .int .i64 i8) rfl; have t13 := BT2.at_ 13 (u := .slice A n c) rfl; clear hb HA))
  have HL3 := bl_alloc HL2 (.cells #[.int .i64 s0, .bool s1, .int .u64 s2, .int .i64 s3] 24)
  have BL3 := Blk.new w2 24 #[.int .i64 s0, .bool s1, .int .u64 s2, .int .i64 s3]
  have BT3 := BT2.alloc (.cells #[.int .i64 s0, .bool s1, .int .u64 s2, .int .i64 s3] 24)
  clear t0 t1 t2 t3 t4 t5 t6 t7 t8 t9 t10 t11 t12 t13
  generalize w2.heap.size = g at BL3 hg3 ⊢
  go_loopw [6] (fun i wr => ∃ k : Nat, ∃ last : Num, k ≤ n ∧ i = .int .i64 k ∧ maySl last (xs.drop k) = maySl ⟨s0, s1, s2, s3⟩ xs ∧ Blk wr g 24 #[.int .i64 last.k, .bool last.n, .int .u64 last.m, .int .i64 last.e] ∧ Blk wr w.heap.size 34 #[.int .i64 s0, .bool s1, .int .u64 s2, .int .i64 s3, .bool i0, .int .i64 i1, .bool i2, .int .u64 i3, .int .i64 i4, .int .i64 i5, .bool i6, .int .u64 i7, .int .i64 i8, .slice A n c] ∧ Below w.heap.size w wr) (fun i _ => n - (intOf i).toNat)
  case atStart => exact ⟨0, ⟨s0, s1, s2, s3⟩, Nat.zero_le _, rfl, rfl, BL3, BT3, HL3⟩
  case round =>
    obtain ⟨k, last, hk, rfl, hms, BL, BT, HB⟩ := hrel
    have hbs : w.heap.size ≤ wr.heap.size := HB.size
    have t13 := BT.at_ 13 (u := .slice A n c) rfl
    by_cases hlt : k < n
    · obtain ⟨b, off, rfl, hbB, hcc⟩ := hs.2 (by omega)
      obtain ⟨x, hx⟩ : ∃ x, xs[k]? = some x := ⟨_, List.getElem?_eq_getElem (show k < xs.length by have := hs.1; omega)⟩
      have hcx := hcc k _ hx
      have hrg : World.rangeAt wr b (off + k * 22) (slcCells x) := fun j u hu => (HB.cell (p := ⟨b, _, none⟩) hbB).trans (hcx j u hu)
      rw [maySl_cons hx] at hms
      have HF := Lib.hid (fun W => whenX_calls x.e W)
      have HC := Lib.hid (fun W => rcmpX_calls x.e last W)
      have HA2 := Lib.hid (fun W => r8mayX_calls x.a W)
      have HO2 := Lib.hid (fun W => r8mayX_calls x.o W)
      have hgl : g < wr.heap.size := Blk.lt BL
      have hgt : w.heap.size < wr.heap.size := Blk.lt BT
      generalize whenN x.e = f1 at HF hms
      generalize cmpN x.e last = cm at HC hms
      generalize mayI x.a = f2 at HA2 hms
      generalize mayI x.o = f3 at HO2 hms
      clear hcc hx hcx hs
      cases f1
      · go_wp2_with (first
      | (refine wpList_loadT rfl (.tmp 41) rfl b (off + k * 22) rfl x hrg ?_)
      | (refine wpList_storeT rfl 88 (.tmp 7) (.tmp 42) rfl wr.heap.size _ (slcCells x).toArray (Blk.new wr _ _) rfl rfl (by kernel_rfl) rfl (slc_one x) ?_
         intro W1 BS1 hk1 hl1
         have HL4 := hl1 w.heap.size w hbs (bl_alloc HB _)
         have BL4 := hk1 _ _ _ (Nat.ne_of_lt hgl) (BL.alloc _)
         have BT4 := hk1 _ _ _ (Nat.ne_of_lt hgt) (BT.alloc _)
         have BS4 := BS1
         have y0 := BS1.at_ 0 (u := .int .i64 x.e.k) rfl; have y1 := BS1.at_ 1 (u := .bool x.e.n) rfl; have y2 := BS1.at_ 2 (u := .int .u64 x.e.m) rfl; have y3 := BS1.at_ 3 (u := .int .i64 x.e.e) rfl
         clear hk1 hl1 BS1)
      | (refine wpList_storeT rfl 24 (.tmp 5) (.tmp 70) rfl g _ #[.int .i64 x.e.k, .bool x.e.n, .int .u64 x.e.m, .int .i64 x.e.e] BL8 rfl rfl (by kernel_rfl) rfl (by simp [Value.oneCell']) ?_; intro W9 BL9 hk9 hl9; have HL9 := hl9 w.heap.size w (Nat.le_of_lt hg3) HL8; have BT9 := hk9 _ _ _ (Nat.ne_of_lt hg3) BT8; clear hk9 hl9)
      | (go_at_call 113; (with_reducible refine (HF.out _).mono ?_); rintro e W5 ⟨rfl, hb⟩; have HL5 := HL4.trans (hb.mono HL4.size); have BS5 := BS4.call hb; have BL5 := BL4.call hb; have BT5 := BT4.call hb; clear y0 y1 y2 y3; have y4 := BS5.at_ 4 (u := .bool x.a.emp) rfl; have y5 := BS5.at_ 5 (u := .int .i64 x.a.lo.k) rfl; have y6 := BS5.at_ 6 (u := .bool x.a.lo.n) rfl; have y7 := BS5.at_ 7 (u := .int .u64 x.a.lo.m) rfl; have y8 := BS5.at_ 8 (u := .int .i64 x.a.lo.e) rfl; have y9 := BS5.at_ 9 (u := .int .i64 x.a.hi.k) rfl; have y10 := BS5.at_ 10 (u := .bool x.a.hi.n) rfl; have y11 := BS5.at_ 11 (u := .int .u64 x.a.hi.m) rfl; have y12 := BS5.at_ 12 (u := .int .i64 x.a.hi.e) rfl; clear hb)
      | (go_at_call 112; first | ((with_reducible refine (HA2.out _).mono ?_); rintro e W6 ⟨rfl, hb⟩; have HL6 := HL5.trans (hb.mono HL5.size); have BS6 := BS5.call hb; have BL6 := BL5.call hb; have BT6 := BT5.call hb; clear y4 y5 y6 y7 y8 y9 y10 y11 y12; have y13 := BS6.at_ 13 (u := .bool x.o.emp) rfl; have y14 := BS6.at_ 14 (u := .int .i64 x.o.lo.k) rfl; have y15 := BS6.at_ 15 (u := .bool x.o.lo.n) rfl; have y16 := BS6.at_ 16 (u := .int .u64 x.o.lo.m) rfl; have y17 := BS6.at_ 17 (u := .int .i64 x.o.lo.e) rfl; have y18 := BS6.at_ 18 (u := .int .i64 x.o.hi.k) rfl; have y19 := BS6.at_ 19 (u := .bool x.o.hi.n) rfl; have y20 := BS6.at_ 20 (u := .int .u64 x.o.hi.m) rfl; have y21 := BS6.at_ 21 (u := .int .i64 x.o.hi.e) rfl; clear hb) | ((with_reducible refine (HO2.out _).mono ?_); rintro e W7 ⟨rfl, hb⟩; have HL7 := HL6.trans (hb.mono HL6.size); have BS7 := BS6.call hb; have BL7 := BL6.call hb; have BT7 := BT6.call hb; clear y13 y14 y15 y16 y17 y18 y19 y20 y21; have y0 := BS7.at_ 0 (u := .int .i64 x.e.k) rfl; have y1 := BS7.at_ 1 (u := .bool x.e.n) rfl; have y2 := BS7.at_ 2 (u := .int .u64 x.e.m) rfl; have y3 := BS7.at_ 3 (u := .int .i64 x.e.e) rfl; obtain ⟨⟨l0, l1, l2, l3⟩, ⟨g0, g1, g2, g3⟩⟩ := BL7.c4; clear hb))
      | (go_at_call 92; (with_reducible refine (HC.out _).mono ?_); rintro e W8 ⟨rfl, hb⟩; have HL8 := HL7.trans (hb.mono HL7.size); have BS8 := BS7.call hb; have BL8 := BL7.call hb; have BT8 := BT7.call hb; clear y0 y1 y2 y3; clear l0 l1 l2 l3 g0 g1 g2 g3; have y0 := BS8.at_ 0 (u := .int .i64 x.e.k) rfl; have y1 := BS8.at_ 1 (u := .bool x.e.n) rfl; have y2 := BS8.at_ 2 (u := .int .u64 x.e.m) rfl; have y3 := BS8.at_ 3 (u := .int .i64 x.e.e) rfl; clear hb))
        go_ret
        exact ⟨ret_boolC (by rw [← hms]; simp), HL7⟩
      cases f2
      · go_wp2_with (first
      | (refine wpList_loadT rfl (.tmp 41) rfl b (off + k * 22) rfl x hrg ?_)
      | (refine wpList_storeT rfl 88 (.tmp 7) (.tmp 42) rfl wr.heap.size _ (slcCells x).toArray (Blk.new wr _ _) rfl rfl (by kernel_rfl) rfl (slc_one x) ?_
         intro W1 BS1 hk1 hl1
         have HL4 := hl1 w.heap.size w hbs (bl_alloc HB _)
         have BL4 := hk1 _ _ _ (Nat.ne_of_lt hgl) (BL.alloc _)
         have BT4 := hk1 _ _ _ (Nat.ne_of_lt hgt) (BT.alloc _)
         have BS4 := BS1
         have y0 := BS1.at_ 0 (u := .int .i64 x.e.k) rfl; have y1 := BS1.at_ 1 (u := .bool x.e.n) rfl; have y2 := BS1.at_ 2 (u := .int .u64 x.e.m) rfl; have y3 := BS1.at_ 3 (u := .int .i64 x.e.e) rfl
         clear hk1 hl1 BS1)
      | (refine wpList_storeT rfl 24 (.tmp 5) (.tmp 70) rfl g _ #[.int .i64 x.e.k, .bool x.e.n, .int .u64 x.e.m, .int .i64 x.e.e] BL8 rfl rfl (by kernel_rfl) rfl (by simp [Value.oneCell']) ?_; intro W9 BL9 hk9 hl9; have HL9 := hl9 w.heap.size w (Nat.le_of_lt hg3) HL8; have BT9 := hk9 _ _ _ (Nat.ne_of_lt hg3) BT8; clear hk9 hl9)
      | (go_at_call 113; (with_reducible refine (HF.out _).mono ?_); rintro e W5 ⟨rfl, hb⟩; have HL5 := HL4.trans (hb.mono HL4.size); have BS5 := BS4.call hb; have BL5 := BL4.call hb; have BT5 := BT4.call hb; clear y0 y1 y2 y3; have y4 := BS5.at_ 4 (u := .bool x.a.emp) rfl; have y5 := BS5.at_ 5 (u := .int .i64 x.a.lo.k) rfl; have y6 := BS5.at_ 6 (u := .bool x.a.lo.n) rfl; have y7 := BS5.at_ 7 (u := .int .u64 x.a.lo.m) rfl; have y8 := BS5.at_ 8 (u := .int .i64 x.a.lo.e) rfl; have y9 := BS5.at_ 9 (u := .int .i64 x.a.hi.k) rfl; have y10 := BS5.at_ 10 (u := .bool x.a.hi.n) rfl; have y11 := BS5.at_ 11 (u := .int .u64 x.a.hi.m) rfl; have y12 := BS5.at_ 12 (u := .int .i64 x.a.hi.e) rfl; clear hb)
      | (go_at_call 112; first | ((with_reducible refine (HA2.out _).mono ?_); rintro e W6 ⟨rfl, hb⟩; have HL6 := HL5.trans (hb.mono HL5.size); have BS6 := BS5.call hb; have BL6 := BL5.call hb; have BT6 := BT5.call hb; clear y4 y5 y6 y7 y8 y9 y10 y11 y12; have y13 := BS6.at_ 13 (u := .bool x.o.emp) rfl; have y14 := BS6.at_ 14 (u := .int .i64 x.o.lo.k) rfl; have y15 := BS6.at_ 15 (u := .bool x.o.lo.n) rfl; have y16 := BS6.at_ 16 (u := .int .u64 x.o.lo.m) rfl; have y17 := BS6.at_ 17 (u := .int .i64 x.o.lo.e) rfl; have y18 := BS6.at_ 18 (u := .int .i64 x.o.hi.k) rfl; have y19 := BS6.at_ 19 (u := .bool x.o.hi.n) rfl; have y20 := BS6.at_ 20 (u := .int .u64 x.o.hi.m) rfl; have y21 := BS6.at_ 21 (u := .int .i64 x.o.hi.e) rfl; clear hb) | ((with_reducible refine (HO2.out _).mono ?_); rintro e W7 ⟨rfl, hb⟩; have HL7 := HL6.trans (hb.mono HL6.size); have BS7 := BS6.call hb; have BL7 := BL6.call hb; have BT7 := BT6.call hb; clear y13 y14 y15 y16 y17 y18 y19 y20 y21; have y0 := BS7.at_ 0 (u := .int .i64 x.e.k) rfl; have y1 := BS7.at_ 1 (u := .bool x.e.n) rfl; have y2 := BS7.at_ 2 (u := .int .u64 x.e.m) rfl; have y3 := BS7.at_ 3 (u := .int .i64 x.e.e) rfl; obtain ⟨⟨l0, l1, l2, l3⟩, ⟨g0, g1, g2, g3⟩⟩ := BL7.c4; clear hb))
      | (go_at_call 92; (with_reducible refine (HC.out _).mono ?_); rintro e W8 ⟨rfl, hb⟩; have HL8 := HL7.trans (hb.mono HL7.size); have BS8 := BS7.call hb; have BL8 := BL7.call hb; have BT8 := BT7.call hb; clear y0 y1 y2 y3; clear l0 l1 l2 l3 g0 g1 g2 g3; have y0 := BS8.at_ 0 (u := .int .i64 x.e.k) rfl; have y1 := BS8.at_ 1 (u := .bool x.e.n) rfl; have y2 := BS8.at_ 2 (u := .int .u64 x.e.m) rfl; have y3 := BS8.at_ 3 (u := .int .i64 x.e.e) rfl; clear hb))
        go_ret
        exact ⟨ret_boolC (by rw [← hms]; simp), HL7⟩
      cases f3
      · go_wp2_with (first
      | (refine wpList_loadT rfl (.tmp 41) rfl b (off + k * 22) rfl x hrg ?_)
      | (refine wpList_storeT rfl 88 (.tmp 7) (.tmp 42) rfl wr.heap.size _ (slcCells x).toArray (Blk.new wr _ _) rfl rfl (by kernel_rfl) rfl (slc_one x) ?_
         intro W1 BS1 hk1 hl1
         have HL4 := hl1 w.heap.size w hbs (bl_alloc HB _)
         have BL4 := hk1 _ _ _ (Nat.ne_of_lt hgl) (BL.alloc _)
         have BT4 := hk1 _ _ _ (Nat.ne_of_lt hgt) (BT.alloc _)
         have BS4 := BS1
         have y0 := BS1.at_ 0 (u := .int .i64 x.e.k) rfl; have y1 := BS1.at_ 1 (u := .bool x.e.n) rfl; have y2 := BS1.at_ 2 (u := .int .u64 x.e.m) rfl; have y3 := BS1.at_ 3 (u := .int .i64 x.e.e) rfl
         clear hk1 hl1 BS1)
      | (refine wpList_storeT rfl 24 (.tmp 5) (.tmp 70) rfl g _ #[.int .i64 x.e.k, .bool x.e.n, .int .u64 x.e.m, .int .i64 x.e.e] BL8 rfl rfl (by kernel_rfl) rfl (by simp [Value.oneCell']) ?_; intro W9 BL9 hk9 hl9; have HL9 := hl9 w.heap.size w (Nat.le_of_lt hg3) HL8; have BT9 := hk9 _ _ _ (Nat.ne_of_lt hg3) BT8; clear hk9 hl9)
      | (go_at_call 113; (with_reducible refine (HF.out _).mono ?_); rintro e W5 ⟨rfl, hb⟩; have HL5 := HL4.trans (hb.mono HL4.size); have BS5 := BS4.call hb; have BL5 := BL4.call hb; have BT5 := BT4.call hb; clear y0 y1 y2 y3; have y4 := BS5.at_ 4 (u := .bool x.a.emp) rfl; have y5 := BS5.at_ 5 (u := .int .i64 x.a.lo.k) rfl; have y6 := BS5.at_ 6 (u := .bool x.a.lo.n) rfl; have y7 := BS5.at_ 7 (u := .int .u64 x.a.lo.m) rfl; have y8 := BS5.at_ 8 (u := .int .i64 x.a.lo.e) rfl; have y9 := BS5.at_ 9 (u := .int .i64 x.a.hi.k) rfl; have y10 := BS5.at_ 10 (u := .bool x.a.hi.n) rfl; have y11 := BS5.at_ 11 (u := .int .u64 x.a.hi.m) rfl; have y12 := BS5.at_ 12 (u := .int .i64 x.a.hi.e) rfl; clear hb)
      | (go_at_call 112; first | ((with_reducible refine (HA2.out _).mono ?_); rintro e W6 ⟨rfl, hb⟩; have HL6 := HL5.trans (hb.mono HL5.size); have BS6 := BS5.call hb; have BL6 := BL5.call hb; have BT6 := BT5.call hb; clear y4 y5 y6 y7 y8 y9 y10 y11 y12; have y13 := BS6.at_ 13 (u := .bool x.o.emp) rfl; have y14 := BS6.at_ 14 (u := .int .i64 x.o.lo.k) rfl; have y15 := BS6.at_ 15 (u := .bool x.o.lo.n) rfl; have y16 := BS6.at_ 16 (u := .int .u64 x.o.lo.m) rfl; have y17 := BS6.at_ 17 (u := .int .i64 x.o.lo.e) rfl; have y18 := BS6.at_ 18 (u := .int .i64 x.o.hi.k) rfl; have y19 := BS6.at_ 19 (u := .bool x.o.hi.n) rfl; have y20 := BS6.at_ 20 (u := .int .u64 x.o.hi.m) rfl; have y21 := BS6.at_ 21 (u := .int .i64 x.o.hi.e) rfl; clear hb) | ((with_reducible refine (HO2.out _).mono ?_); rintro e W7 ⟨rfl, hb⟩; have HL7 := HL6.trans (hb.mono HL6.size); have BS7 := BS6.call hb; have BL7 := BL6.call hb; have BT7 := BT6.call hb; clear y13 y14 y15 y16 y17 y18 y19 y20 y21; have y0 := BS7.at_ 0 (u := .int .i64 x.e.k) rfl; have y1 := BS7.at_ 1 (u := .bool x.e.n) rfl; have y2 := BS7.at_ 2 (u := .int .u64 x.e.m) rfl; have y3 := BS7.at_ 3 (u := .int .i64 x.e.e) rfl; obtain ⟨⟨l0, l1, l2, l3⟩, ⟨g0, g1, g2, g3⟩⟩ := BL7.c4; clear hb))
      | (go_at_call 92; (with_reducible refine (HC.out _).mono ?_); rintro e W8 ⟨rfl, hb⟩; have HL8 := HL7.trans (hb.mono HL7.size); have BS8 := BS7.call hb; have BL8 := BL7.call hb; have BT8 := BT7.call hb; clear y0 y1 y2 y3; clear l0 l1 l2 l3 g0 g1 g2 g3; have y0 := BS8.at_ 0 (u := .int .i64 x.e.k) rfl; have y1 := BS8.at_ 1 (u := .bool x.e.n) rfl; have y2 := BS8.at_ 2 (u := .int .u64 x.e.m) rfl; have y3 := BS8.at_ 3 (u := .int .i64 x.e.e) rfl; clear hb))
        go_ret
        exact ⟨ret_boolC (by rw [← hms]; simp), HL7⟩
      by_cases hcm : cm ≤ 0
      · go_wp2_with (first
      | (refine wpList_loadT rfl (.tmp 41) rfl b (off + k * 22) rfl x hrg ?_)
      | (refine wpList_storeT rfl 88 (.tmp 7) (.tmp 42) rfl wr.heap.size _ (slcCells x).toArray (Blk.new wr _ _) rfl rfl (by kernel_rfl) rfl (slc_one x) ?_
         intro W1 BS1 hk1 hl1
         have HL4 := hl1 w.heap.size w hbs (bl_alloc HB _)
         have BL4 := hk1 _ _ _ (Nat.ne_of_lt hgl) (BL.alloc _)
         have BT4 := hk1 _ _ _ (Nat.ne_of_lt hgt) (BT.alloc _)
         have BS4 := BS1
         have y0 := BS1.at_ 0 (u := .int .i64 x.e.k) rfl; have y1 := BS1.at_ 1 (u := .bool x.e.n) rfl; have y2 := BS1.at_ 2 (u := .int .u64 x.e.m) rfl; have y3 := BS1.at_ 3 (u := .int .i64 x.e.e) rfl
         clear hk1 hl1 BS1)
      | (refine wpList_storeT rfl 24 (.tmp 5) (.tmp 70) rfl g _ #[.int .i64 x.e.k, .bool x.e.n, .int .u64 x.e.m, .int .i64 x.e.e] BL8 rfl rfl (by kernel_rfl) rfl (by simp [Value.oneCell']) ?_; intro W9 BL9 hk9 hl9; have HL9 := hl9 w.heap.size w (Nat.le_of_lt hg3) HL8; have BT9 := hk9 _ _ _ (Nat.ne_of_lt hg3) BT8; clear hk9 hl9)
      | (go_at_call 113; (with_reducible refine (HF.out _).mono ?_); rintro e W5 ⟨rfl, hb⟩; have HL5 := HL4.trans (hb.mono HL4.size); have BS5 := BS4.call hb; have BL5 := BL4.call hb; have BT5 := BT4.call hb; clear y0 y1 y2 y3; have y4 := BS5.at_ 4 (u := .bool x.a.emp) rfl; have y5 := BS5.at_ 5 (u := .int .i64 x.a.lo.k) rfl; have y6 := BS5.at_ 6 (u := .bool x.a.lo.n) rfl; have y7 := BS5.at_ 7 (u := .int .u64 x.a.lo.m) rfl; have y8 := BS5.at_ 8 (u := .int .i64 x.a.lo.e) rfl; have y9 := BS5.at_ 9 (u := .int .i64 x.a.hi.k) rfl; have y10 := BS5.at_ 10 (u := .bool x.a.hi.n) rfl; have y11 := BS5.at_ 11 (u := .int .u64 x.a.hi.m) rfl; have y12 := BS5.at_ 12 (u := .int .i64 x.a.hi.e) rfl; clear hb)
      | (go_at_call 112; first | ((with_reducible refine (HA2.out _).mono ?_); rintro e W6 ⟨rfl, hb⟩; have HL6 := HL5.trans (hb.mono HL5.size); have BS6 := BS5.call hb; have BL6 := BL5.call hb; have BT6 := BT5.call hb; clear y4 y5 y6 y7 y8 y9 y10 y11 y12; have y13 := BS6.at_ 13 (u := .bool x.o.emp) rfl; have y14 := BS6.at_ 14 (u := .int .i64 x.o.lo.k) rfl; have y15 := BS6.at_ 15 (u := .bool x.o.lo.n) rfl; have y16 := BS6.at_ 16 (u := .int .u64 x.o.lo.m) rfl; have y17 := BS6.at_ 17 (u := .int .i64 x.o.lo.e) rfl; have y18 := BS6.at_ 18 (u := .int .i64 x.o.hi.k) rfl; have y19 := BS6.at_ 19 (u := .bool x.o.hi.n) rfl; have y20 := BS6.at_ 20 (u := .int .u64 x.o.hi.m) rfl; have y21 := BS6.at_ 21 (u := .int .i64 x.o.hi.e) rfl; clear hb) | ((with_reducible refine (HO2.out _).mono ?_); rintro e W7 ⟨rfl, hb⟩; have HL7 := HL6.trans (hb.mono HL6.size); have BS7 := BS6.call hb; have BL7 := BL6.call hb; have BT7 := BT6.call hb; clear y13 y14 y15 y16 y17 y18 y19 y20 y21; have y0 := BS7.at_ 0 (u := .int .i64 x.e.k) rfl; have y1 := BS7.at_ 1 (u := .bool x.e.n) rfl; have y2 := BS7.at_ 2 (u := .int .u64 x.e.m) rfl; have y3 := BS7.at_ 3 (u := .int .i64 x.e.e) rfl; obtain ⟨⟨l0, l1, l2, l3⟩, ⟨g0, g1, g2, g3⟩⟩ := BL7.c4; clear hb))
      | (go_at_call 92; (with_reducible refine (HC.out _).mono ?_); rintro e W8 ⟨rfl, hb⟩; have HL8 := HL7.trans (hb.mono HL7.size); have BS8 := BS7.call hb; have BL8 := BL7.call hb; have BT8 := BT7.call hb; clear y0 y1 y2 y3; clear l0 l1 l2 l3 g0 g1 g2 g3; have y0 := BS8.at_ 0 (u := .int .i64 x.e.k) rfl; have y1 := BS8.at_ 1 (u := .bool x.e.n) rfl; have y2 := BS8.at_ 2 (u := .int .u64 x.e.m) rfl; have y3 := BS8.at_ 3 (u := .int .i64 x.e.e) rfl; clear hb))
        go_ret
        exact ⟨ret_boolC (by rw [← hms]; simp [show ¬ 0 < cm by omega]), HL8⟩
      go_wp2_with (first
      | (refine wpList_loadT rfl (.tmp 41) rfl b (off + k * 22) rfl x hrg ?_)
      | (refine wpList_storeT rfl 88 (.tmp 7) (.tmp 42) rfl wr.heap.size _ (slcCells x).toArray (Blk.new wr _ _) rfl rfl (by kernel_rfl) rfl (slc_one x) ?_
         intro W1 BS1 hk1 hl1
         have HL4 := hl1 w.heap.size w hbs (bl_alloc HB _)
         have BL4 := hk1 _ _ _ (Nat.ne_of_lt hgl) (BL.alloc _)
         have BT4 := hk1 _ _ _ (Nat.ne_of_lt hgt) (BT.alloc _)
         have BS4 := BS1
         have y0 := BS1.at_ 0 (u := .int .i64 x.e.k) rfl; have y1 := BS1.at_ 1 (u := .bool x.e.n) rfl; have y2 := BS1.at_ 2 (u := .int .u64 x.e.m) rfl; have y3 := BS1.at_ 3 (u := .int .i64 x.e.e) rfl
         clear hk1 hl1 BS1)
      | (refine wpList_storeT rfl 24 (.tmp 5) (.tmp 70) rfl g _ #[.int .i64 x.e.k, .bool x.e.n, .int .u64 x.e.m, .int .i64 x.e.e] BL8 rfl rfl (by kernel_rfl) rfl (by simp [Value.oneCell']) ?_; intro W9 BL9 hk9 hl9; have HL9 := hl9 w.heap.size w (Nat.le_of_lt hg3) HL8; have BT9 := hk9 _ _ _ (Nat.ne_of_lt hg3) BT8; clear hk9 hl9)
      | (go_at_call 113; (with_reducible refine (HF.out _).mono ?_); rintro e W5 ⟨rfl, hb⟩; have HL5 := HL4.trans (hb.mono HL4.size); have BS5 := BS4.call hb; have BL5 := BL4.call hb; have BT5 := BT4.call hb; clear y0 y1 y2 y3; have y4 := BS5.at_ 4 (u := .bool x.a.emp) rfl; have y5 := BS5.at_ 5 (u := .int .i64 x.a.lo.k) rfl; have y6 := BS5.at_ 6 (u := .bool x.a.lo.n) rfl; have y7 := BS5.at_ 7 (u := .int .u64 x.a.lo.m) rfl; have y8 := BS5.at_ 8 (u := .int .i64 x.a.lo.e) rfl; have y9 := BS5.at_ 9 (u := .int .i64 x.a.hi.k) rfl; have y10 := BS5.at_ 10 (u := .bool x.a.hi.n) rfl; have y11 := BS5.at_ 11 (u := .int .u64 x.a.hi.m) rfl; have y12 := BS5.at_ 12 (u := .int .i64 x.a.hi.e) rfl; clear hb)
      | (go_at_call 112; first | ((with_reducible refine (HA2.out _).mono ?_); rintro e W6 ⟨rfl, hb⟩; have HL6 := HL5.trans (hb.mono HL5.size); have BS6 := BS5.call hb; have BL6 := BL5.call hb; have BT6 := BT5.call hb; clear y4 y5 y6 y7 y8 y9 y10 y11 y12; have y13 := BS6.at_ 13 (u := .bool x.o.emp) rfl; have y14 := BS6.at_ 14 (u := .int .i64 x.o.lo.k) rfl; have y15 := BS6.at_ 15 (u := .bool x.o.lo.n) rfl; have y16 := BS6.at_ 16 (u := .int .u64 x.o.lo.m) rfl; have y17 := BS6.at_ 17 (u := .int .i64 x.o.lo.e) rfl; have y18 := BS6.at_ 18 (u := .int .i64 x.o.hi.k) rfl; have y19 := BS6.at_ 19 (u := .bool x.o.hi.n) rfl; have y20 := BS6.at_ 20 (u := .int .u64 x.o.hi.m) rfl; have y21 := BS6.at_ 21 (u := .int .i64 x.o.hi.e) rfl; clear hb) | ((with_reducible refine (HO2.out _).mono ?_); rintro e W7 ⟨rfl, hb⟩; have HL7 := HL6.trans (hb.mono HL6.size); have BS7 := BS6.call hb; have BL7 := BL6.call hb; have BT7 := BT6.call hb; clear y13 y14 y15 y16 y17 y18 y19 y20 y21; have y0 := BS7.at_ 0 (u := .int .i64 x.e.k) rfl; have y1 := BS7.at_ 1 (u := .bool x.e.n) rfl; have y2 := BS7.at_ 2 (u := .int .u64 x.e.m) rfl; have y3 := BS7.at_ 3 (u := .int .i64 x.e.e) rfl; obtain ⟨⟨l0, l1, l2, l3⟩, ⟨g0, g1, g2, g3⟩⟩ := BL7.c4; clear hb))
      | (go_at_call 92; (with_reducible refine (HC.out _).mono ?_); rintro e W8 ⟨rfl, hb⟩; have HL8 := HL7.trans (hb.mono HL7.size); have BS8 := BS7.call hb; have BL8 := BL7.call hb; have BT8 := BT7.call hb; clear y0 y1 y2 y3; clear l0 l1 l2 l3 g0 g1 g2 g3; have y0 := BS8.at_ 0 (u := .int .i64 x.e.k) rfl; have y1 := BS8.at_ 1 (u := .bool x.e.n) rfl; have y2 := BS8.at_ 2 (u := .int .u64 x.e.m) rfl; have y3 := BS8.at_ 3 (u := .int .i64 x.e.e) rfl; clear hb))
      go_roundw
      case rel => exact ⟨k + 1, x.e, by omega, by go_num, by rw [← hms]; simp [show 0 < cm by omega], BL9, BT9, HL9⟩
      case measure => simp [intOf] <;> omega
    · have hkn : n = k := by omega
      subst hkn
      rw [drop_end hs.1] at hms
      have Hms := Lib.hid hms
      clear hms
      go_wp2
      go_ret
      exact ⟨ret_boolC Hms.out, HB⟩


end Go.Proofs.Ytakajahogjeiaab.Wk
