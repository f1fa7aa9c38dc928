import Derived.Test.YteabdeohhmbclaaGreatPvEy
namespace Go.Proofs.YteabdeohhmbclaaGreat.Wk
open Go.RowKit Go.Proofs.Pl Go.Proofs.YteabdeohhmbclaaGreatW.PrintLast
set_option linter.unusedSimpArgs false
set_option linter.unusedVariables false
theorem mayT_len {t : Tb} (h : mayT t = true) : t.l.length ≤ 1000 := by
 unfold mayT at h
 simp only [Bool.and_eq_true, decide_eq_true_eq] at h
 omega
theorem pave_pre (s0 : Int) (s1 : Bool) (s2 s3 : Int) (i0 : Bool) (i1 : Int) (i2 : Bool) (i3 i4 i5 : Int) (i6 : Bool) (i7 i8 : Int) (A : Option Addr) (n c : Nat) (t0 : Int) (t1 : Bool) (t2 t3 : Int) (j0 : Bool) (j1 : Int) (j2 : Bool) (j3 j4 j5 : Int) (j6 : Bool) (j7 j8 : Int) (B : Option Addr) (m d : Nat) (g0 : Int) (g1 : Bool) (g2 g3 : Int) (f0 : Int) (f1 : Bool) (f2 f3 : Int) (w : World) :
  ∃ W, W = (((w.alloc (.cells #[.i s0, .b s1, .u s2, .i s3, .b i0, .i i1, .b i2, .u i3, .i i4, .i i5, .b i6, .u i7, .i i8, .slice A n c] 37)).alloc (.cells #[.i t0, .b t1, .u t2, .i t3, .b j0, .i j1, .b j2, .u j3, .i j4, .i j5, .b j6, .u j7, .i j8, .slice B m d] 37)).alloc (.cells #[.i g0, .b g1, .u g2, .i g3] 32)).alloc (.cells #[.i f0, .b f1, .u f2, .i f3] 32) ∧ Blk W w.heap.size 37 #[.i s0, .b s1, .u s2, .i s3, .b i0, .i i1, .b i2, .u i3, .i i4, .i i5, .b i6, .u i7, .i i8, .slice A n c] ∧ Blk W (w.heap.size + 1) 37 #[.i t0, .b t1, .u t2, .i t3, .b j0, .i j1, .b j2, .u j3, .i j4, .i j5, .b j6, .u j7, .i j8, .slice B m d] ∧ Blk W (w.heap.size + 2) 32 #[.i g0, .b g1, .u g2, .i g3] ∧ Blk W (w.heap.size + 3) 32 #[.i f0, .b f1, .u f2, .i f3] ∧ Below w.heap.size w W :=
 ⟨_, rfl, (((Blk.new w _ _).alloc _).alloc _).alloc _, ((Blk.new1 w _ _ _).alloc _).alloc _, (Blk.new2 w _ _ _ _).alloc _, Blk.new3 w _ _ _ _ _, bl_alloc (bl_alloc (bl_alloc (bl_alloc (Below.refl w.heap.size w) _) _) _) _⟩
set_option maxRecDepth 100000 in
set_option maxHeartbeats 8000000 in
theorem pave_a (s0 : Int) (s1 : Bool) (s2 s3 : Int) (i0 : Bool) (i1 : Int) (i2 : Bool) (i3 i4 i5 : Int) (i6 : Bool) (i7 i8 : Int) (A : Option Addr) (n c : Nat) (xs : List Slc) (t0 : Int) (t1 : Bool) (t2 t3 : Int) (j0 : Bool) (j1 : Int) (j2 : Bool) (j3 j4 j5 : Int) (j6 : Bool) (j7 j8 : Int) (B : Option Addr) (m d : Nat) (ys : List Slc) (g0 : Int) (g1 : Bool) (g2 g3 : Int) (f0 : Int) (f1 : Bool) (f2 f3 : Int) (bud : Nat) (w : World) (hs : SlT w w.heap.size A n xs) (ht : SlT w w.heap.size B m ys) (h1 : mayT ⟨⟨s0, s1, s2, s3⟩, ⟨i0, ⟨i1, i2, i3, i4⟩, ⟨i5, i6, i7, i8⟩⟩, xs⟩ = false) :
  Calls Tryz.prog 7 #[.agg #[.i s0, .b s1, .u s2, .i s3, .b i0, .i i1, .b i2, .u i3, .i i4, .i i5, .b i6, .u i7, .i i8, .slice A n c], .agg #[.i t0, .b t1, .u t2, .i t3, .b j0, .i j1, .b j2, .u j3, .i j4, .i j5, .b j6, .u j7, .i j8, .slice B m d], .agg #[.i g0, .b g1, .u g2, .i g3], .agg #[.i f0, .b f1, .u f2, .i f3], .i bud] w fun e w' => e = .returned (.tuple #[.slice none 0 0, .i 0]) ∧ Below w.heap.size w w' := by
 have h1' := h1
 have HMX := (fun W h => tmay_calls s0 s1 s2 s3 i0 i1 i2 i3 i4 i5 i6 i7 i8 A n c xs W h)
 have HMY := (fun W h => tmay_calls t0 t1 t2 t3 j0 j1 j2 j3 j4 j5 j6 j7 j8 B m d ys W h)
 replace HMX := Lib.hid HMX
 replace HMY := Lib.hid HMY
 obtain ⟨W_, rfl, BX, BY, BG, BF, HBd⟩ := pave_pre s0 s1 s2 s3 i0 i1 i2 i3 i4 i5 i6 i7 i8 A n c t0 t1 t2 t3 j0 j1 j2 j3 j4 j5 j6 j7 j8 B m d g0 g1 g2 g3 f0 f1 f2 f3 w
 rw [h1] at HMX
 go_enter Tryz.func7, Tryz.ntmps7
 go_wp2_with fail
 replace BX := BX.drew
 replace BY := BY.drew
 replace BG := BG.drew
 replace BF := BF.drew
 replace HBd := bl_drew HBd
 refine start_ (n := 22) (S := fun w' => Blk w' w.heap.size 37 #[.i s0, .b s1, .u s2, .i s3, .b i0, .i i1, .b i2, .u i3, .i i4, .i i5, .b i6, .u i7, .i i8, .slice A n c] ∧ Blk w' (w.heap.size + 1) 37 #[.i t0, .b t1, .u t2, .i t3, .b j0, .i j1, .b j2, .u j3, .i j4, .i j5, .b j6, .u j7, .i j8, .slice B m d]) (ds := []) (bq 22 0) (by kernel_rfl) rfl rfl ⟨BX, BY⟩ (fun hHeld => ?_)
 generalize hWW : World.drew _ = w3 at BX BY BG BF HBd hHeld ⊢
 clear hWW
 refine ta 0 15 (bq 22 1) rfl (.agg #[.i s0, .b s1, .u s2, .i s3, .b i0, .i i1, .b i2, .u i3, .i i4, .i i5, .b i6, .u i7, .i i8, .slice A n c]) ?_ hHeld (yieldsIf_load_mid (by rfl) 37 (.tmp 5) rfl w.heap.size 0 rfl [.i s0, .b s1, .u s2, .i s3, .b i0, .i i1, .b i2, .u i3, .i i4, .i i5, .b i6, .u i7, .i i8, .slice A n c] _ (fun _ h => Blk.range h.1 0 _ rfl) Tryz.underlying37 rfl (by kernel_rfl)) ?_ ?_
 rotate_left
 ·simp only [Act.put, pA, pB, pC]
  rfl
 refine on 1 16 (bq 22 3) (fun K hK => ?_)
 refine goes_ Tryz.func14 (by kernel_rfl) rfl #[.agg #[.i s0, .b s1, .u s2, .i s3, .b i0, .i i1, .b i2, .u i3, .i i4, .i i5, .b i6, .u i7, .i i8, .slice A n c]] (by first | rfl | go_simp) rfl rfl (by simp only [List.map_toArray, List.map_cons, List.map_nil] <;> rfl) ?_
 with_reducible refine (HMX.out _ (hs.on HBd)).mono ?_
 rintro e w4 ⟨rfl, hb⟩
 refine ⟨_, rfl, ?_⟩
 replace BX := BX.call hb
 replace BY := BY.call hb
 replace BG := BG.call hb
 replace BF := BF.call hb
 replace HBd := bl_trans HBd hb
 refine hK.out _ _ ⟨BX, BY⟩ (fun hHeld => ?_)
 clear hK K hb
 refine norm_ (a' := ?_) ?_ ?_
 rotate_left
 ·show Act.put _ (some 16) _ = _
  simp only [Act.put, pA, pB, pC]
  rfl
 refine pu 2 17 (bq 22 7) ?_ ?_ (fun _ => ?_) ?_ ?_
 rotate_left 2
 ·go_simp
  with_reducible rfl
 ·simp only [Act.put, pA, pB, pC]
  rfl
 refine pu 3 18 (bq 22 15) ?_ ?_ (fun _ => ?_) ?_ ?_
 rotate_left 2
 ·go_simp
  with_reducible rfl
 ·simp only [Act.put, pA, pB, pC]
  rfl
 refine po 4 19 (bq 22 31) ?_ ?_ ?_
 rotate_left
 ·simp only [Act.put, pA, pB, pC]
  rfl
 refine po 5 20 (bq 22 63) ?_ ?_ ?_
 rotate_left
 ·simp only [Act.put, pA, pB, pC]
  rfl
 refine po 6 21 (bq 22 127) ?_ ?_ ?_
 rotate_left
 ·simp only [Act.put, pA, pB, pC]
  rfl
 refine pu 7 22 (bq 22 255) ?_ ?_ (fun _ => ?_) ?_ ?_
 rotate_left 2
 ·go_simp
  with_reducible rfl
 ·simp only [Act.put, pA, pB, pC]
  rfl
 refine pu 8 23 (bq 22 511) ?_ ?_ (fun _ => ?_) ?_ ?_
 rotate_left 2
 ·go_simp
  with_reducible rfl
 ·simp only [Act.put, pA, pB, pC]
  rfl
 refine po 9 24 (bq 22 1023) ?_ ?_ ?_
 rotate_left
 ·simp only [Act.put, pA, pB, pC]
  rfl
 refine po 10 25 (bq 22 2047) ?_ ?_ ?_
 rotate_left
 ·simp only [Act.put, pA, pB, pC]
  rfl
 refine po 11 26 (bq 22 4095) ?_ ?_ ?_
 rotate_left
 ·simp only [Act.put, pA, pB, pC]
  rfl
 refine po 12 27 (bq 22 8191) ?_ ?_ ?_
 rotate_left
 ·simp only [Act.put, pA, pB, pC]
  rfl
 refine po 13 28 (bq 22 16383) ?_ ?_ ?_
 rotate_left
 ·simp only [Act.put, pA, pB, pC]
  rfl
 refine pu 14 29 (bq 22 32767) ?_ ?_ (fun _ => ?_) ?_ ?_
 rotate_left 2
 ·go_simp
  with_reducible rfl
 ·simp only [Act.put, pA, pB, pC]
  rfl
 refine pu 15 30 (bq 22 65535) ?_ ?_ (fun _ => ?_) ?_ ?_
 rotate_left 2
 ·go_simp
  with_reducible rfl
 ·simp only [Act.put, pA, pB, pC]
  rfl
 refine po 16 31 (bq 22 131071) ?_ ?_ ?_
 rotate_left
 ·simp only [Act.put, pA, pB, pC]
  rfl
 refine po 17 32 (bq 22 262143) ?_ ?_ ?_
 rotate_left
 ·simp only [Act.put, pA, pB, pC]
  rfl
 refine po 18 33 (bq 22 524287) ?_ ?_ ?_
 rotate_left
 ·simp only [Act.put, pA, pB, pC]
  rfl
 refine po 19 34 (bq 22 1048575) ?_ ?_ ?_
 rotate_left
 ·simp only [Act.put, pA, pB, pC]
  rfl
 refine po 20 35 (bq 22 2097151) ?_ ?_ ?_
 rotate_left
 ·simp only [Act.put, pA, pB, pC]
  rfl
 refine pu 21 36 (bq 22 4194303) ?_ ?_ (fun _ => ?_) ?_ ?_
 rotate_left 2
 ·go_simp
  with_reducible rfl
 ·simp only [Act.put, pA, pB, pC]
  rfl
 refine done_ (by kernel_rfl) ?_
 clear hHeld
 go_wp2_with fail
 go_ret2
 exact ⟨rfl, HBd⟩
set_option maxRecDepth 100000 in
set_option maxHeartbeats 8000000 in
theorem pave_b (s0 : Int) (s1 : Bool) (s2 s3 : Int) (i0 : Bool) (i1 : Int) (i2 : Bool) (i3 i4 i5 : Int) (i6 : Bool) (i7 i8 : Int) (A : Option Addr) (n c : Nat) (xs : List Slc) (t0 : Int) (t1 : Bool) (t2 t3 : Int) (j0 : Bool) (j1 : Int) (j2 : Bool) (j3 j4 j5 : Int) (j6 : Bool) (j7 j8 : Int) (B : Option Addr) (m d : Nat) (ys : List Slc) (g0 : Int) (g1 : Bool) (g2 g3 : Int) (f0 : Int) (f1 : Bool) (f2 f3 : Int) (bud : Nat) (w : World) (hs : SlT w w.heap.size A n xs) (ht : SlT w w.heap.size B m ys) (h1 : mayT ⟨⟨s0, s1, s2, s3⟩, ⟨i0, ⟨i1, i2, i3, i4⟩, ⟨i5, i6, i7, i8⟩⟩, xs⟩ = true) (h2 : mayT ⟨⟨t0, t1, t2, t3⟩, ⟨j0, ⟨j1, j2, j3, j4⟩, ⟨j5, j6, j7, j8⟩⟩, ys⟩ = false) :
  Calls Tryz.prog 7 #[.agg #[.i s0, .b s1, .u s2, .i s3, .b i0, .i i1, .b i2, .u i3, .i i4, .i i5, .b i6, .u i7, .i i8, .slice A n c], .agg #[.i t0, .b t1, .u t2, .i t3, .b j0, .i j1, .b j2, .u j3, .i j4, .i j5, .b j6, .u j7, .i j8, .slice B m d], .agg #[.i g0, .b g1, .u g2, .i g3], .agg #[.i f0, .b f1, .u f2, .i f3], .i bud] w fun e w' => e = .returned (.tuple #[.slice none 0 0, .i 0]) ∧ Below w.heap.size w w' := by
 have HMX := (fun W h => tmay_calls s0 s1 s2 s3 i0 i1 i2 i3 i4 i5 i6 i7 i8 A n c xs W h)
 have HMY := (fun W h => tmay_calls t0 t1 t2 t3 j0 j1 j2 j3 j4 j5 j6 j7 j8 B m d ys W h)
 replace HMX := Lib.hid HMX
 replace HMY := Lib.hid HMY
 obtain ⟨W_, rfl, BX, BY, BG, BF, HBd⟩ := pave_pre s0 s1 s2 s3 i0 i1 i2 i3 i4 i5 i6 i7 i8 A n c t0 t1 t2 t3 j0 j1 j2 j3 j4 j5 j6 j7 j8 B m d g0 g1 g2 g3 f0 f1 f2 f3 w
 rw [h1] at HMX
 rw [h2] at HMY
 go_enter Tryz.func7, Tryz.ntmps7
 go_wp2_with fail
 replace BX := BX.drew
 replace BY := BY.drew
 replace BG := BG.drew
 replace BF := BF.drew
 replace HBd := bl_drew HBd
 refine start_ (n := 22) (S := fun w' => Blk w' w.heap.size 37 #[.i s0, .b s1, .u s2, .i s3, .b i0, .i i1, .b i2, .u i3, .i i4, .i i5, .b i6, .u i7, .i i8, .slice A n c] ∧ Blk w' (w.heap.size + 1) 37 #[.i t0, .b t1, .u t2, .i t3, .b j0, .i j1, .b j2, .u j3, .i j4, .i j5, .b j6, .u j7, .i j8, .slice B m d]) (ds := []) (bq 22 0) (by kernel_rfl) rfl rfl ⟨BX, BY⟩ (fun hHeld => ?_)
 generalize hWW : World.drew _ = w3 at BX BY BG BF HBd hHeld ⊢
 clear hWW
 refine ta 0 15 (bq 22 1) rfl (.agg #[.i s0, .b s1, .u s2, .i s3, .b i0, .i i1, .b i2, .u i3, .i i4, .i i5, .b i6, .u i7, .i i8, .slice A n c]) ?_ hHeld (yieldsIf_load_mid (by rfl) 37 (.tmp 5) rfl w.heap.size 0 rfl [.i s0, .b s1, .u s2, .i s3, .b i0, .i i1, .b i2, .u i3, .i i4, .i i5, .b i6, .u i7, .i i8, .slice A n c] _ (fun _ h => Blk.range h.1 0 _ rfl) Tryz.underlying37 rfl (by kernel_rfl)) ?_ ?_
 rotate_left
 ·simp only [Act.put, pA, pB, pC]
  rfl
 refine on 1 16 (bq 22 3) (fun K hK => ?_)
 refine goes_ Tryz.func14 (by kernel_rfl) rfl #[.agg #[.i s0, .b s1, .u s2, .i s3, .b i0, .i i1, .b i2, .u i3, .i i4, .i i5, .b i6, .u i7, .i i8, .slice A n c]] (by first | rfl | go_simp) rfl rfl (by simp only [List.map_toArray, List.map_cons, List.map_nil] <;> rfl) ?_
 with_reducible refine (HMX.out _ (hs.on HBd)).mono ?_
 rintro e w4 ⟨rfl, hb⟩
 refine ⟨_, rfl, ?_⟩
 replace BX := BX.call hb
 replace BY := BY.call hb
 replace BG := BG.call hb
 replace BF := BF.call hb
 replace HBd := bl_trans HBd hb
 refine hK.out _ _ ⟨BX, BY⟩ (fun hHeld => ?_)
 clear hK K hb
 refine norm_ (a' := ?_) ?_ ?_
 rotate_left
 ·show Act.put _ (some 16) _ = _
  simp only [Act.put, pA, pB, pC]
  rfl
 refine pu 2 17 (bq 22 7) ?_ ?_ (fun _ => ?_) ?_ ?_
 rotate_left 2
 ·go_simp
  with_reducible rfl
 ·simp only [Act.put, pA, pB, pC]
  rfl
 refine pu 3 18 (bq 22 15) ?_ ?_ (fun _ => ?_) ?_ ?_
 rotate_left 2
 ·go_simp
  with_reducible rfl
 ·simp only [Act.put, pA, pB, pC]
  rfl
 refine ta 4 19 (bq 22 31) rfl (.agg #[.i t0, .b t1, .u t2, .i t3, .b j0, .i j1, .b j2, .u j3, .i j4, .i j5, .b j6, .u j7, .i j8, .slice B m d]) ?_ hHeld (yieldsIf_load_mid (by rfl) 37 (.tmp 6) rfl (w.heap.size + 1) 0 rfl [.i t0, .b t1, .u t2, .i t3, .b j0, .i j1, .b j2, .u j3, .i j4, .i j5, .b j6, .u j7, .i j8, .slice B m d] _ (fun _ h => Blk.range h.2 0 _ rfl) Tryz.underlying37 rfl (by kernel_rfl)) ?_ ?_
 rotate_left
 ·simp only [Act.put, pA, pB, pC]
  rfl
 refine on 5 20 (bq 22 63) (fun K hK => ?_)
 refine goes_ Tryz.func14 (by kernel_rfl) rfl #[.agg #[.i t0, .b t1, .u t2, .i t3, .b j0, .i j1, .b j2, .u j3, .i j4, .i j5, .b j6, .u j7, .i j8, .slice B m d]] (by first | rfl | go_simp) rfl rfl (by simp only [List.map_toArray, List.map_cons, List.map_nil] <;> rfl) ?_
 with_reducible refine (HMY.out _ (ht.on HBd)).mono ?_
 rintro e w5 ⟨rfl, hb⟩
 refine ⟨_, rfl, ?_⟩
 replace BX := BX.call hb
 replace BY := BY.call hb
 replace BG := BG.call hb
 replace BF := BF.call hb
 replace HBd := bl_trans HBd hb
 refine hK.out _ _ ⟨BX, BY⟩ (fun hHeld => ?_)
 clear hK K hb
 refine norm_ (a' := ?_) ?_ ?_
 rotate_left
 ·show Act.put _ (some 20) _ = _
  simp only [Act.put, pA, pB, pC]
  rfl
 refine pu 6 21 (bq 22 127) ?_ ?_ (fun _ => ?_) ?_ ?_
 rotate_left 2
 ·go_simp
  with_reducible rfl
 ·simp only [Act.put, pA, pB, pC]
  rfl
 refine pu 7 22 (bq 22 255) ?_ ?_ (fun _ => ?_) ?_ ?_
 rotate_left 2
 ·go_simp
  with_reducible rfl
 ·simp only [Act.put, pA, pB, pC]
  rfl
 refine pu 8 23 (bq 22 511) ?_ ?_ (fun _ => ?_) ?_ ?_
 rotate_left 2
 ·go_simp
  with_reducible rfl
 ·simp only [Act.put, pA, pB, pC]
  rfl
 refine po 9 24 (bq 22 1023) ?_ ?_ ?_
 rotate_left
 ·simp only [Act.put, pA, pB, pC]
  rfl
 refine po 10 25 (bq 22 2047) ?_ ?_ ?_
 rotate_left
 ·simp only [Act.put, pA, pB, pC]
  rfl
 refine po 11 26 (bq 22 4095) ?_ ?_ ?_
 rotate_left
 ·simp only [Act.put, pA, pB, pC]
  rfl
 refine po 12 27 (bq 22 8191) ?_ ?_ ?_
 rotate_left
 ·simp only [Act.put, pA, pB, pC]
  rfl
 refine po 13 28 (bq 22 16383) ?_ ?_ ?_
 rotate_left
 ·simp only [Act.put, pA, pB, pC]
  rfl
 refine pu 14 29 (bq 22 32767) ?_ ?_ (fun _ => ?_) ?_ ?_
 rotate_left 2
 ·go_simp
  with_reducible rfl
 ·simp only [Act.put, pA, pB, pC]
  rfl
 refine pu 15 30 (bq 22 65535) ?_ ?_ (fun _ => ?_) ?_ ?_
 rotate_left 2
 ·go_simp
  with_reducible rfl
 ·simp only [Act.put, pA, pB, pC]
  rfl
 refine po 16 31 (bq 22 131071) ?_ ?_ ?_
 rotate_left
 ·simp only [Act.put, pA, pB, pC]
  rfl
 refine po 17 32 (bq 22 262143) ?_ ?_ ?_
 rotate_left
 ·simp only [Act.put, pA, pB, pC]
  rfl
 refine po 18 33 (bq 22 524287) ?_ ?_ ?_
 rotate_left
 ·simp only [Act.put, pA, pB, pC]
  rfl
 refine po 19 34 (bq 22 1048575) ?_ ?_ ?_
 rotate_left
 ·simp only [Act.put, pA, pB, pC]
  rfl
 refine po 20 35 (bq 22 2097151) ?_ ?_ ?_
 rotate_left
 ·simp only [Act.put, pA, pB, pC]
  rfl
 refine pu 21 36 (bq 22 4194303) ?_ ?_ (fun _ => ?_) ?_ ?_
 rotate_left 2
 ·go_simp
  with_reducible rfl
 ·simp only [Act.put, pA, pB, pC]
  rfl
 refine done_ (by kernel_rfl) ?_
 clear hHeld
 go_wp2_with fail
 go_ret2
 exact ⟨rfl, HBd⟩
set_option maxRecDepth 100000 in
set_option maxHeartbeats 8000000 in
theorem pave_c (s0 : Int) (s1 : Bool) (s2 s3 : Int) (i0 : Bool) (i1 : Int) (i2 : Bool) (i3 i4 i5 : Int) (i6 : Bool) (i7 i8 : Int) (A : Option Addr) (n c : Nat) (xs : List Slc) (t0 : Int) (t1 : Bool) (t2 t3 : Int) (j0 : Bool) (j1 : Int) (j2 : Bool) (j3 j4 j5 : Int) (j6 : Bool) (j7 j8 : Int) (B : Option Addr) (m d : Nat) (ys : List Slc) (g0 : Int) (g1 : Bool) (g2 g3 : Int) (f0 : Int) (f1 : Bool) (f2 f3 : Int) (bud : Nat) (w : World) (hs : SlT w w.heap.size A n xs) (ht : SlT w w.heap.size B m ys) (h1 : mayT ⟨⟨s0, s1, s2, s3⟩, ⟨i0, ⟨i1, i2, i3, i4⟩, ⟨i5, i6, i7, i8⟩⟩, xs⟩ = true) (h2 : mayT ⟨⟨t0, t1, t2, t3⟩, ⟨j0, ⟨j1, j2, j3, j4⟩, ⟨j5, j6, j7, j8⟩⟩, ys⟩ = true) (h3 : decide ((⟨s0, s1, s2, s3⟩ : Num) = ⟨t0, t1, t2, t3⟩) = false) :
  Calls Tryz.prog 7 #[.agg #[.i s0, .b s1, .u s2, .i s3, .b i0, .i i1, .b i2, .u i3, .i i4, .i i5, .b i6, .u i7, .i i8, .slice A n c], .agg #[.i t0, .b t1, .u t2, .i t3, .b j0, .i j1, .b j2, .u j3, .i j4, .i j5, .b j6, .u j7, .i j8, .slice B m d], .agg #[.i g0, .b g1, .u g2, .i g3], .agg #[.i f0, .b f1, .u f2, .i f3], .i bud] w fun e w' => e = .returned (.tuple #[.slice none 0 0, .i 0]) ∧ Below w.heap.size w w' := by
 have HMX := (fun W h => tmay_calls s0 s1 s2 s3 i0 i1 i2 i3 i4 i5 i6 i7 i8 A n c xs W h)
 have HMY := (fun W h => tmay_calls t0 t1 t2 t3 j0 j1 j2 j3 j4 j5 j6 j7 j8 B m d ys W h)
 replace HMX := Lib.hid HMX
 replace HMY := Lib.hid HMY
 obtain ⟨W_, rfl, BX, BY, BG, BF, HBd⟩ := pave_pre s0 s1 s2 s3 i0 i1 i2 i3 i4 i5 i6 i7 i8 A n c t0 t1 t2 t3 j0 j1 j2 j3 j4 j5 j6 j7 j8 B m d g0 g1 g2 g3 f0 f1 f2 f3 w
 rw [h1] at HMX
 rw [h2] at HMY
 have HNE : ∀ W : World, (binOp .neq 32 (.agg #[.i s0, .b s1, .u s2, .i s3]) (.agg #[.i t0, .b t1, .u t2, .i t3])).run Tryz.prog W = .ok (.b true) W := fun W => by rw [run_neNum, h3]; rfl
 go_enter Tryz.func7, Tryz.ntmps7
 go_wp2_with fail
 replace BX := BX.drew
 replace BY := BY.drew
 replace BG := BG.drew
 replace BF := BF.drew
 replace HBd := bl_drew HBd
 refine start_ (n := 22) (S := fun w' => Blk w' w.heap.size 37 #[.i s0, .b s1, .u s2, .i s3, .b i0, .i i1, .b i2, .u i3, .i i4, .i i5, .b i6, .u i7, .i i8, .slice A n c] ∧ Blk w' (w.heap.size + 1) 37 #[.i t0, .b t1, .u t2, .i t3, .b j0, .i j1, .b j2, .u j3, .i j4, .i j5, .b j6, .u j7, .i j8, .slice B m d]) (ds := []) (bq 22 0) (by kernel_rfl) rfl rfl ⟨BX, BY⟩ (fun hHeld => ?_)
 generalize hWW : World.drew _ = w3 at BX BY BG BF HBd hHeld ⊢
 clear hWW
 refine ta 0 15 (bq 22 1) rfl (.agg #[.i s0, .b s1, .u s2, .i s3, .b i0, .i i1, .b i2, .u i3, .i i4, .i i5, .b i6, .u i7, .i i8, .slice A n c]) ?_ hHeld (yieldsIf_load_mid (by rfl) 37 (.tmp 5) rfl w.heap.size 0 rfl [.i s0, .b s1, .u s2, .i s3, .b i0, .i i1, .b i2, .u i3, .i i4, .i i5, .b i6, .u i7, .i i8, .slice A n c] _ (fun _ h => Blk.range h.1 0 _ rfl) Tryz.underlying37 rfl (by kernel_rfl)) ?_ ?_
 rotate_left
 ·simp only [Act.put, pA, pB, pC]
  rfl
 refine on 1 16 (bq 22 3) (fun K hK => ?_)
 refine goes_ Tryz.func14 (by kernel_rfl) rfl #[.agg #[.i s0, .b s1, .u s2, .i s3, .b i0, .i i1, .b i2, .u i3, .i i4, .i i5, .b i6, .u i7, .i i8, .slice A n c]] (by first | rfl | go_simp) rfl rfl (by simp only [List.map_toArray, List.map_cons, List.map_nil] <;> rfl) ?_
 with_reducible refine (HMX.out _ (hs.on HBd)).mono ?_
 rintro e w4 ⟨rfl, hb⟩
 refine ⟨_, rfl, ?_⟩
 replace BX := BX.call hb
 replace BY := BY.call hb
 replace BG := BG.call hb
 replace BF := BF.call hb
 replace HBd := bl_trans HBd hb
 refine hK.out _ _ ⟨BX, BY⟩ (fun hHeld => ?_)
 clear hK K hb
 refine norm_ (a' := ?_) ?_ ?_
 rotate_left
 ·show Act.put _ (some 16) _ = _
  simp only [Act.put, pA, pB, pC]
  rfl
 refine pu 2 17 (bq 22 7) ?_ ?_ (fun _ => ?_) ?_ ?_
 rotate_left 2
 ·go_simp
  with_reducible rfl
 ·simp only [Act.put, pA, pB, pC]
  rfl
 refine pu 3 18 (bq 22 15) ?_ ?_ (fun _ => ?_) ?_ ?_
 rotate_left 2
 ·go_simp
  with_reducible rfl
 ·simp only [Act.put, pA, pB, pC]
  rfl
 refine ta 4 19 (bq 22 31) rfl (.agg #[.i t0, .b t1, .u t2, .i t3, .b j0, .i j1, .b j2, .u j3, .i j4, .i j5, .b j6, .u j7, .i j8, .slice B m d]) ?_ hHeld (yieldsIf_load_mid (by rfl) 37 (.tmp 6) rfl (w.heap.size + 1) 0 rfl [.i t0, .b t1, .u t2, .i t3, .b j0, .i j1, .b j2, .u j3, .i j4, .i j5, .b j6, .u j7, .i j8, .slice B m d] _ (fun _ h => Blk.range h.2 0 _ rfl) Tryz.underlying37 rfl (by kernel_rfl)) ?_ ?_
 rotate_left
 ·simp only [Act.put, pA, pB, pC]
  rfl
 refine on 5 20 (bq 22 63) (fun K hK => ?_)
 refine goes_ Tryz.func14 (by kernel_rfl) rfl #[.agg #[.i t0, .b t1, .u t2, .i t3, .b j0, .i j1, .b j2, .u j3, .i j4, .i j5, .b j6, .u j7, .i j8, .slice B m d]] (by first | rfl | go_simp) rfl rfl (by simp only [List.map_toArray, List.map_cons, List.map_nil] <;> rfl) ?_
 with_reducible refine (HMY.out _ (ht.on HBd)).mono ?_
 rintro e w5 ⟨rfl, hb⟩
 refine ⟨_, rfl, ?_⟩
 replace BX := BX.call hb
 replace BY := BY.call hb
 replace BG := BG.call hb
 replace BF := BF.call hb
 replace HBd := bl_trans HBd hb
 refine hK.out _ _ ⟨BX, BY⟩ (fun hHeld => ?_)
 clear hK K hb
 refine norm_ (a' := ?_) ?_ ?_
 rotate_left
 ·show Act.put _ (some 20) _ = _
  simp only [Act.put, pA, pB, pC]
  rfl
 refine pu 6 21 (bq 22 127) ?_ ?_ (fun _ => ?_) ?_ ?_
 rotate_left 2
 ·go_simp
  with_reducible rfl
 ·simp only [Act.put, pA, pB, pC]
  rfl
 refine pu 7 22 (bq 22 255) ?_ ?_ (fun _ => ?_) ?_ ?_
 rotate_left 2
 ·go_simp
  with_reducible rfl
 ·simp only [Act.put, pA, pB, pC]
  rfl
 refine pu 8 23 (bq 22 511) ?_ ?_ (fun _ => ?_) ?_ ?_
 rotate_left 2
 ·go_simp
  with_reducible rfl
 ·simp only [Act.put, pA, pB, pC]
  rfl
 refine pu 9 24 (bq 22 1023) ?_ ?_ (fun _ => ?_) ?_ ?_
 rotate_left 2
 ·go_simp
  with_reducible rfl
 ·simp only [Act.put, pA, pB, pC]
  rfl
 refine ta 10 25 (bq 22 2047) rfl (.agg #[.i s0, .b s1, .u s2, .i s3]) ?_ hHeld (yieldsIf_load_mid (by rfl) 32 (.tmp 24) rfl w.heap.size 0 rfl [.i s0, .b s1, .u s2, .i s3] _ (fun _ h => Blk.range h.1 0 _ rfl) Tryz.underlying32 rfl (by kernel_rfl)) ?_ ?_
 rotate_left
 ·simp only [Act.put, pA, pB, pC]
  rfl
 refine pu 11 26 (bq 22 4095) ?_ ?_ (fun _ => ?_) ?_ ?_
 rotate_left 2
 ·go_simp
  with_reducible rfl
 ·simp only [Act.put, pA, pB, pC]
  rfl
 refine ta 12 27 (bq 22 8191) rfl (.agg #[.i t0, .b t1, .u t2, .i t3]) ?_ hHeld (yieldsIf_load_mid (by rfl) 32 (.tmp 26) rfl (w.heap.size + 1) 0 rfl [.i t0, .b t1, .u t2, .i t3] _ (fun _ h => Blk.range h.2 0 _ rfl) Tryz.underlying32 rfl (by kernel_rfl)) ?_ ?_
 rotate_left
 ·simp only [Act.put, pA, pB, pC]
  rfl
 refine pu 13 28 (bq 22 16383) ?_ ?_ (fun _ => ?_) ?_ ?_
 rotate_left 2
 ·go_simp
  with_reducible rfl
 ·simp only [Act.put, pA, pB, pC]
  rfl
 refine pu 14 29 (bq 22 32767) ?_ ?_ (fun _ => ?_) ?_ ?_
 rotate_left 2
 ·go_simp
  with_reducible rfl
 ·simp only [Act.put, pA, pB, pC]
  rfl
 refine pu 15 30 (bq 22 65535) ?_ ?_ (fun _ => ?_) ?_ ?_
 rotate_left 2
 ·go_simp
  with_reducible rfl
 ·simp only [Act.put, pA, pB, pC]
  rfl
 refine po 16 31 (bq 22 131071) ?_ ?_ ?_
 rotate_left
 ·simp only [Act.put, pA, pB, pC]
  rfl
 refine po 17 32 (bq 22 262143) ?_ ?_ ?_
 rotate_left
 ·simp only [Act.put, pA, pB, pC]
  rfl
 refine po 18 33 (bq 22 524287) ?_ ?_ ?_
 rotate_left
 ·simp only [Act.put, pA, pB, pC]
  rfl
 refine po 19 34 (bq 22 1048575) ?_ ?_ ?_
 rotate_left
 ·simp only [Act.put, pA, pB, pC]
  rfl
 refine po 20 35 (bq 22 2097151) ?_ ?_ ?_
 rotate_left
 ·simp only [Act.put, pA, pB, pC]
  rfl
 refine pu 21 36 (bq 22 4194303) ?_ ?_ (fun _ => ?_) ?_ ?_
 rotate_left 2
 ·go_simp
  with_reducible rfl
 ·simp only [Act.put, pA, pB, pC]
  rfl
 refine done_ (by kernel_rfl) ?_
 clear hHeld
 go_wp2_with fail
 go_ret2
 exact ⟨rfl, HBd⟩
set_option maxRecDepth 100000 in
set_option maxHeartbeats 8000000 in
theorem pave_d (s0 : Int) (s1 : Bool) (s2 s3 : Int) (i0 : Bool) (i1 : Int) (i2 : Bool) (i3 i4 i5 : Int) (i6 : Bool) (i7 i8 : Int) (A : Option Addr) (n c : Nat) (xs : List Slc) (t0 : Int) (t1 : Bool) (t2 t3 : Int) (j0 : Bool) (j1 : Int) (j2 : Bool) (j3 j4 j5 : Int) (j6 : Bool) (j7 j8 : Int) (B : Option Addr) (m d : Nat) (ys : List Slc) (g0 : Int) (g1 : Bool) (g2 g3 : Int) (f0 : Int) (f1 : Bool) (f2 f3 : Int) (bud : Nat) (w : World) (hs : SlT w w.heap.size A n xs) (ht : SlT w w.heap.size B m ys) (h1 : mayT ⟨⟨s0, s1, s2, s3⟩, ⟨i0, ⟨i1, i2, i3, i4⟩, ⟨i5, i6, i7, i8⟩⟩, xs⟩ = true) (h2 : mayT ⟨⟨t0, t1, t2, t3⟩, ⟨j0, ⟨j1, j2, j3, j4⟩, ⟨j5, j6, j7, j8⟩⟩, ys⟩ = true) (h3 : decide ((⟨s0, s1, s2, s3⟩ : Num) = ⟨t0, t1, t2, t3⟩) = true) (h4 : decide (endT ⟨s0, s1, s2, s3⟩ xs = endT ⟨t0, t1, t2, t3⟩ ys) = false) :
  Calls Tryz.prog 7 #[.agg #[.i s0, .b s1, .u s2, .i s3, .b i0, .i i1, .b i2, .u i3, .i i4, .i i5, .b i6, .u i7, .i i8, .slice A n c], .agg #[.i t0, .b t1, .u t2, .i t3, .b j0, .i j1, .b j2, .u j3, .i j4, .i j5, .b j6, .u j7, .i j8, .slice B m d], .agg #[.i g0, .b g1, .u g2, .i g3], .agg #[.i f0, .b f1, .u f2, .i f3], .i bud] w fun e w' => e = .returned (.tuple #[.slice none 0 0, .i 0]) ∧ Below w.heap.size w w' := by
 have hn64 : n ≤ 1000 := by rw [← hs.1]; exact mayT_len h1
 have hm64 : m ≤ 1000 := by rw [← ht.1]; exact mayT_len h2
 have HLX := (fun W h => plast_calls s0 s1 s2 s3 i0 i1 i2 i3 i4 i5 i6 i7 i8 A n c xs W h hn64)
 have HLY := (fun W h => plast_calls t0 t1 t2 t3 j0 j1 j2 j3 j4 j5 j6 j7 j8 B m d ys W h hm64)
 generalize endT ⟨s0, s1, s2, s3⟩ xs = p at HLX h4 ⊢
 generalize endT ⟨t0, t1, t2, t3⟩ ys = q at HLY h4 ⊢
 obtain ⟨p0, p1, p2, p3⟩ := p
 obtain ⟨q0, q1, q2, q3⟩ := q
 dsimp only at HLX HLY
 replace HLX := Lib.hid HLX
 replace HLY := Lib.hid HLY
 have HMX := (fun W h => tmay_calls s0 s1 s2 s3 i0 i1 i2 i3 i4 i5 i6 i7 i8 A n c xs W h)
 have HMY := (fun W h => tmay_calls t0 t1 t2 t3 j0 j1 j2 j3 j4 j5 j6 j7 j8 B m d ys W h)
 replace HMX := Lib.hid HMX
 replace HMY := Lib.hid HMY
 obtain ⟨W_, rfl, BX, BY, BG, BF, HBd⟩ := pave_pre s0 s1 s2 s3 i0 i1 i2 i3 i4 i5 i6 i7 i8 A n c t0 t1 t2 t3 j0 j1 j2 j3 j4 j5 j6 j7 j8 B m d g0 g1 g2 g3 f0 f1 f2 f3 w
 rw [h1] at HMX
 rw [h2] at HMY
 have HNE : ∀ W : World, (binOp .neq 32 (.agg #[.i s0, .b s1, .u s2, .i s3]) (.agg #[.i t0, .b t1, .u t2, .i t3])).run Tryz.prog W = .ok (.b false) W := fun W => by rw [run_neNum, h3]; rfl
 have HNF : ∀ W : World, (binOp .neq 32 (.agg #[.i p0, .b p1, .u p2, .i p3]) (.agg #[.i q0, .b q1, .u q2, .i q3])).run Tryz.prog W = .ok (.b true) W := fun W => by rw [run_neNum, h4]; rfl
 go_enter Tryz.func7, Tryz.ntmps7
 go_wp2_with fail
 replace BX := BX.drew
 replace BY := BY.drew
 replace BG := BG.drew
 replace BF := BF.drew
 replace HBd := bl_drew HBd
 refine start_ (n := 22) (S := fun w' => Blk w' w.heap.size 37 #[.i s0, .b s1, .u s2, .i s3, .b i0, .i i1, .b i2, .u i3, .i i4, .i i5, .b i6, .u i7, .i i8, .slice A n c] ∧ Blk w' (w.heap.size + 1) 37 #[.i t0, .b t1, .u t2, .i t3, .b j0, .i j1, .b j2, .u j3, .i j4, .i j5, .b j6, .u j7, .i j8, .slice B m d]) (ds := []) (bq 22 0) (by kernel_rfl) rfl rfl ⟨BX, BY⟩ (fun hHeld => ?_)
 generalize hWW : World.drew _ = w3 at BX BY BG BF HBd hHeld ⊢
 clear hWW
 refine ta 0 15 (bq 22 1) rfl (.agg #[.i s0, .b s1, .u s2, .i s3, .b i0, .i i1, .b i2, .u i3, .i i4, .i i5, .b i6, .u i7, .i i8, .slice A n c]) ?_ hHeld (yieldsIf_load_mid (by rfl) 37 (.tmp 5) rfl w.heap.size 0 rfl [.i s0, .b s1, .u s2, .i s3, .b i0, .i i1, .b i2, .u i3, .i i4, .i i5, .b i6, .u i7, .i i8, .slice A n c] _ (fun _ h => Blk.range h.1 0 _ rfl) Tryz.underlying37 rfl (by kernel_rfl)) ?_ ?_
 rotate_left
 ·simp only [Act.put, pA, pB, pC]
  rfl
 refine on 1 16 (bq 22 3) (fun K hK => ?_)
 refine goes_ Tryz.func14 (by kernel_rfl) rfl #[.agg #[.i s0, .b s1, .u s2, .i s3, .b i0, .i i1, .b i2, .u i3, .i i4, .i i5, .b i6, .u i7, .i i8, .slice A n c]] (by first | rfl | go_simp) rfl rfl (by simp only [List.map_toArray, List.map_cons, List.map_nil] <;> rfl) ?_
 with_reducible refine (HMX.out _ (hs.on HBd)).mono ?_
 rintro e w4 ⟨rfl, hb⟩
 refine ⟨_, rfl, ?_⟩
 replace BX := BX.call hb
 replace BY := BY.call hb
 replace BG := BG.call hb
 replace BF := BF.call hb
 replace HBd := bl_trans HBd hb
 refine hK.out _ _ ⟨BX, BY⟩ (fun hHeld => ?_)
 clear hK K hb
 refine norm_ (a' := ?_) ?_ ?_
 rotate_left
 ·show Act.put _ (some 16) _ = _
  simp only [Act.put, pA, pB, pC]
  rfl
 refine pu 2 17 (bq 22 7) ?_ ?_ (fun _ => ?_) ?_ ?_
 rotate_left 2
 ·go_simp
  with_reducible rfl
 ·simp only [Act.put, pA, pB, pC]
  rfl
 refine pu 3 18 (bq 22 15) ?_ ?_ (fun _ => ?_) ?_ ?_
 rotate_left 2
 ·go_simp
  with_reducible rfl
 ·simp only [Act.put, pA, pB, pC]
  rfl
 refine ta 4 19 (bq 22 31) rfl (.agg #[.i t0, .b t1, .u t2, .i t3, .b j0, .i j1, .b j2, .u j3, .i j4, .i j5, .b j6, .u j7, .i j8, .slice B m d]) ?_ hHeld (yieldsIf_load_mid (by rfl) 37 (.tmp 6) rfl (w.heap.size + 1) 0 rfl [.i t0, .b t1, .u t2, .i t3, .b j0, .i j1, .b j2, .u j3, .i j4, .i j5, .b j6, .u j7, .i j8, .slice B m d] _ (fun _ h => Blk.range h.2 0 _ rfl) Tryz.underlying37 rfl (by kernel_rfl)) ?_ ?_
 rotate_left
 ·simp only [Act.put, pA, pB, pC]
  rfl
 refine on 5 20 (bq 22 63) (fun K hK => ?_)
 refine goes_ Tryz.func14 (by kernel_rfl) rfl #[.agg #[.i t0, .b t1, .u t2, .i t3, .b j0, .i j1, .b j2, .u j3, .i j4, .i j5, .b j6, .u j7, .i j8, .slice B m d]] (by first | rfl | go_simp) rfl rfl (by simp only [List.map_toArray, List.map_cons, List.map_nil] <;> rfl) ?_
 with_reducible refine (HMY.out _ (ht.on HBd)).mono ?_
 rintro e w5 ⟨rfl, hb⟩
 refine ⟨_, rfl, ?_⟩
 replace BX := BX.call hb
 replace BY := BY.call hb
 replace BG := BG.call hb
 replace BF := BF.call hb
 replace HBd := bl_trans HBd hb
 refine hK.out _ _ ⟨BX, BY⟩ (fun hHeld => ?_)
 clear hK K hb
 refine norm_ (a' := ?_) ?_ ?_
 rotate_left
 ·show Act.put _ (some 20) _ = _
  simp only [Act.put, pA, pB, pC]
  rfl
 refine pu 6 21 (bq 22 127) ?_ ?_ (fun _ => ?_) ?_ ?_
 rotate_left 2
 ·go_simp
  with_reducible rfl
 ·simp only [Act.put, pA, pB, pC]
  rfl
 refine pu 7 22 (bq 22 255) ?_ ?_ (fun _ => ?_) ?_ ?_
 rotate_left 2
 ·go_simp
  with_reducible rfl
 ·simp only [Act.put, pA, pB, pC]
  rfl
 refine pu 8 23 (bq 22 511) ?_ ?_ (fun _ => ?_) ?_ ?_
 rotate_left 2
 ·go_simp
  with_reducible rfl
 ·simp only [Act.put, pA, pB, pC]
  rfl
 refine pu 9 24 (bq 22 1023) ?_ ?_ (fun _ => ?_) ?_ ?_
 rotate_left 2
 ·go_simp
  with_reducible rfl
 ·simp only [Act.put, pA, pB, pC]
  rfl
 refine ta 10 25 (bq 22 2047) rfl (.agg #[.i s0, .b s1, .u s2, .i s3]) ?_ hHeld (yieldsIf_load_mid (by rfl) 32 (.tmp 24) rfl w.heap.size 0 rfl [.i s0, .b s1, .u s2, .i s3] _ (fun _ h => Blk.range h.1 0 _ rfl) Tryz.underlying32 rfl (by kernel_rfl)) ?_ ?_
 rotate_left
 ·simp only [Act.put, pA, pB, pC]
  rfl
 refine pu 11 26 (bq 22 4095) ?_ ?_ (fun _ => ?_) ?_ ?_
 rotate_left 2
 ·go_simp
  with_reducible rfl
 ·simp only [Act.put, pA, pB, pC]
  rfl
 refine ta 12 27 (bq 22 8191) rfl (.agg #[.i t0, .b t1, .u t2, .i t3]) ?_ hHeld (yieldsIf_load_mid (by rfl) 32 (.tmp 26) rfl (w.heap.size + 1) 0 rfl [.i t0, .b t1, .u t2, .i t3] _ (fun _ h => Blk.range h.2 0 _ rfl) Tryz.underlying32 rfl (by kernel_rfl)) ?_ ?_
 rotate_left
 ·simp only [Act.put, pA, pB, pC]
  rfl
 refine pu 13 28 (bq 22 16383) ?_ ?_ (fun _ => ?_) ?_ ?_
 rotate_left 2
 ·go_simp
  with_reducible rfl
 ·simp only [Act.put, pA, pB, pC]
  rfl
 refine pu 14 29 (bq 22 32767) ?_ ?_ (fun _ => ?_) ?_ ?_
 rotate_left 2
 ·go_simp
  with_reducible rfl
 ·simp only [Act.put, pA, pB, pC]
  rfl
 refine pu 15 30 (bq 22 65535) ?_ ?_ (fun _ => ?_) ?_ ?_
 rotate_left 2
 ·go_simp
  with_reducible rfl
 ·simp only [Act.put, pA, pB, pC]
  rfl
 refine ta 16 31 (bq 22 131071) rfl (.agg #[.i s0, .b s1, .u s2, .i s3, .b i0, .i i1, .b i2, .u i3, .i i4, .i i5, .b i6, .u i7, .i i8, .slice A n c]) ?_ hHeld (yieldsIf_load_mid (by rfl) 37 (.tmp 5) rfl w.heap.size 0 rfl [.i s0, .b s1, .u s2, .i s3, .b i0, .i i1, .b i2, .u i3, .i i4, .i i5, .b i6, .u i7, .i i8, .slice A n c] _ (fun _ h => Blk.range h.1 0 _ rfl) Tryz.underlying37 rfl (by kernel_rfl)) ?_ ?_
 rotate_left
 ·simp only [Act.put, pA, pB, pC]
  rfl
 refine ta 18 33 (bq 22 393215) rfl (.agg #[.i t0, .b t1, .u t2, .i t3, .b j0, .i j1, .b j2, .u j3, .i j4, .i j5, .b j6, .u j7, .i j8, .slice B m d]) ?_ hHeld (yieldsIf_load_mid (by rfl) 37 (.tmp 6) rfl (w.heap.size + 1) 0 rfl [.i t0, .b t1, .u t2, .i t3, .b j0, .i j1, .b j2, .u j3, .i j4, .i j5, .b j6, .u j7, .i j8, .slice B m d] _ (fun _ h => Blk.range h.2 0 _ rfl) Tryz.underlying37 rfl (by kernel_rfl)) ?_ ?_
 rotate_left
 ·simp only [Act.put, pA, pB, pC]
  rfl
 refine on 17 32 (bq 22 524287) (fun K hK => ?_)
 refine goes_ Tryz.func15 (by kernel_rfl) rfl #[.agg #[.i s0, .b s1, .u s2, .i s3, .b i0, .i i1, .b i2, .u i3, .i i4, .i i5, .b i6, .u i7, .i i8, .slice A n c]] (by first | rfl | go_simp) rfl rfl (by simp only [List.map_toArray, List.map_cons, List.map_nil] <;> rfl) ?_
 with_reducible refine (HLX.out _ (hs.on HBd)).mono ?_
 rintro e w6 ⟨rfl, hb⟩
 refine ⟨_, rfl, ?_⟩
 replace BX := BX.call hb
 replace BY := BY.call hb
 replace BG := BG.call hb
 replace BF := BF.call hb
 replace HBd := bl_trans HBd hb
 refine hK.out _ _ ⟨BX, BY⟩ (fun hHeld => ?_)
 clear hK K hb
 refine norm_ (a' := ?_) ?_ ?_
 rotate_left
 ·show Act.put _ (some 32) _ = _
  simp only [Act.put, pA, pB, pC]
  rfl
 refine on 19 34 (bq 22 1048575) (fun K hK => ?_)
 refine goes_ Tryz.func15 (by kernel_rfl) rfl #[.agg #[.i t0, .b t1, .u t2, .i t3, .b j0, .i j1, .b j2, .u j3, .i j4, .i j5, .b j6, .u j7, .i j8, .slice B m d]] (by first | rfl | go_simp) rfl rfl (by simp only [List.map_toArray, List.map_cons, List.map_nil] <;> rfl) ?_
 with_reducible refine (HLY.out _ (ht.on HBd)).mono ?_
 rintro e w7 ⟨rfl, hb⟩
 refine ⟨_, rfl, ?_⟩
 replace BX := BX.call hb
 replace BY := BY.call hb
 replace BG := BG.call hb
 replace BF := BF.call hb
 replace HBd := bl_trans HBd hb
 refine hK.out _ _ ⟨BX, BY⟩ (fun hHeld => ?_)
 clear hK K hb
 refine norm_ (a' := ?_) ?_ ?_
 rotate_left
 ·show Act.put _ (some 34) _ = _
  simp only [Act.put, pA, pB, pC]
  rfl
 refine pu 20 35 (bq 22 2097151) ?_ ?_ (fun _ => ?_) ?_ ?_
 rotate_left 2
 ·go_simp
  with_reducible rfl
 ·simp only [Act.put, pA, pB, pC]
  rfl
 refine pu 21 36 (bq 22 4194303) ?_ ?_ (fun _ => ?_) ?_ ?_
 rotate_left 2
 ·go_simp
  with_reducible rfl
 ·simp only [Act.put, pA, pB, pC]
  rfl
 refine done_ (by kernel_rfl) ?_
 clear hHeld
 go_wp2_with fail
 go_ret2
 exact ⟨rfl, HBd⟩
end Go.Proofs.YteabdeohhmbclaaGreat.Wk
