/- Walk: tube.Over, its way through the gates. -/
import Derived.Test.YteabdeohhmbclaaGreatOvBy
namespace Go.Proofs.YteabdeohhmbclaaGreat.Wk
open Go.RowKit Go.Shelf Go.Proofs.Pl Go.Proofs.YteabdeohhmbclaaGreatW.PrintLast
set_option linter.unusedSimpArgs false
set_option linter.unusedVariables false
attribute [local go_sem] Oper.semAt_some

set_option maxRecDepth 100000 in
set_option maxHeartbeats 16000000 in
theorem over_f (s0 : Int) (s1 : Bool) (s2 s3 : Int) (i0 : Bool) (i1 : Int) (i2 : Bool) (i3 i4 i5 : Int) (i6 : Bool) (i7 i8 : Int) (A : Option Addr) (n c : Nat) (xs : List Slc) (x0 : Bool) (x1 : Int) (x2 : Bool) (x3 x4 x5 : Int) (x6 : Bool) (x7 x8 : Int) (w : World) (hs : SlT w w.heap.size A n xs) (hm : mayT ⟨⟨s0, s1, s2, s3⟩, ⟨i0, ⟨i1, i2, i3, i4⟩, ⟨i5, i6, i7, i8⟩⟩, xs⟩ = true) (hx : x0 = false) (hx2 : mayI ⟨x0, ⟨x1, x2, x3, x4⟩, ⟨x5, x6, x7, x8⟩⟩ = true) (hd : ¬ cmpN ⟨x1, x2, x3, x4⟩ ⟨s0, s1, s2, s3⟩ < 0) (he : ¬ 0 < cmpN ⟨x5, x6, x7, x8⟩ (endT ⟨s0, s1, s2, s3⟩ xs)) :
    Calls Tryz.prog 77 #[.agg #[.i s0, .b s1, .u s2, .i s3, .b i0, .i i1, .b i2, .u i3, .i i4, .i i5, .b i6, .u i7, .i i8, .slice A n c], .agg #[.b x0, .i x1, .b x2, .u x3, .i x4, .i x5, .b x6, .u x7, .i x8]] w fun e w' => e = .returned (.agg #[.b ((hullI (overF ⟨x0, ⟨x1, x2, x3, x4⟩, ⟨x5, x6, x7, x8⟩⟩ xs ([atT ⟨s0, s1, s2, s3⟩ ⟨i0, ⟨i1, i2, i3, i4⟩, ⟨i5, i6, i7, i8⟩⟩ xs ⟨x1, x2, x3, x4⟩, atT ⟨s0, s1, s2, s3⟩ ⟨i0, ⟨i1, i2, i3, i4⟩, ⟨i5, i6, i7, i8⟩⟩ xs ⟨x5, x6, x7, x8⟩], ⟨s0, s1, s2, s3⟩) (gatesL ⟨s0, s1, s2, s3⟩ ⟨i0, ⟨i1, i2, i3, i4⟩, ⟨i5, i6, i7, i8⟩⟩ xs (n + 1))).1)).emp, .i (((hullI (overF ⟨x0, ⟨x1, x2, x3, x4⟩, ⟨x5, x6, x7, x8⟩⟩ xs ([atT ⟨s0, s1, s2, s3⟩ ⟨i0, ⟨i1, i2, i3, i4⟩, ⟨i5, i6, i7, i8⟩⟩ xs ⟨x1, x2, x3, x4⟩, atT ⟨s0, s1, s2, s3⟩ ⟨i0, ⟨i1, i2, i3, i4⟩, ⟨i5, i6, i7, i8⟩⟩ xs ⟨x5, x6, x7, x8⟩], ⟨s0, s1, s2, s3⟩) (gatesL ⟨s0, s1, s2, s3⟩ ⟨i0, ⟨i1, i2, i3, i4⟩, ⟨i5, i6, i7, i8⟩⟩ xs (n + 1))).1)).lo).k, .b (((hullI (overF ⟨x0, ⟨x1, x2, x3, x4⟩, ⟨x5, x6, x7, x8⟩⟩ xs ([atT ⟨s0, s1, s2, s3⟩ ⟨i0, ⟨i1, i2, i3, i4⟩, ⟨i5, i6, i7, i8⟩⟩ xs ⟨x1, x2, x3, x4⟩, atT ⟨s0, s1, s2, s3⟩ ⟨i0, ⟨i1, i2, i3, i4⟩, ⟨i5, i6, i7, i8⟩⟩ xs ⟨x5, x6, x7, x8⟩], ⟨s0, s1, s2, s3⟩) (gatesL ⟨s0, s1, s2, s3⟩ ⟨i0, ⟨i1, i2, i3, i4⟩, ⟨i5, i6, i7, i8⟩⟩ xs (n + 1))).1)).lo).n, .u (((hullI (overF ⟨x0, ⟨x1, x2, x3, x4⟩, ⟨x5, x6, x7, x8⟩⟩ xs ([atT ⟨s0, s1, s2, s3⟩ ⟨i0, ⟨i1, i2, i3, i4⟩, ⟨i5, i6, i7, i8⟩⟩ xs ⟨x1, x2, x3, x4⟩, atT ⟨s0, s1, s2, s3⟩ ⟨i0, ⟨i1, i2, i3, i4⟩, ⟨i5, i6, i7, i8⟩⟩ xs ⟨x5, x6, x7, x8⟩], ⟨s0, s1, s2, s3⟩) (gatesL ⟨s0, s1, s2, s3⟩ ⟨i0, ⟨i1, i2, i3, i4⟩, ⟨i5, i6, i7, i8⟩⟩ xs (n + 1))).1)).lo).m, .i (((hullI (overF ⟨x0, ⟨x1, x2, x3, x4⟩, ⟨x5, x6, x7, x8⟩⟩ xs ([atT ⟨s0, s1, s2, s3⟩ ⟨i0, ⟨i1, i2, i3, i4⟩, ⟨i5, i6, i7, i8⟩⟩ xs ⟨x1, x2, x3, x4⟩, atT ⟨s0, s1, s2, s3⟩ ⟨i0, ⟨i1, i2, i3, i4⟩, ⟨i5, i6, i7, i8⟩⟩ xs ⟨x5, x6, x7, x8⟩], ⟨s0, s1, s2, s3⟩) (gatesL ⟨s0, s1, s2, s3⟩ ⟨i0, ⟨i1, i2, i3, i4⟩, ⟨i5, i6, i7, i8⟩⟩ xs (n + 1))).1)).lo).e, .i (((hullI (overF ⟨x0, ⟨x1, x2, x3, x4⟩, ⟨x5, x6, x7, x8⟩⟩ xs ([atT ⟨s0, s1, s2, s3⟩ ⟨i0, ⟨i1, i2, i3, i4⟩, ⟨i5, i6, i7, i8⟩⟩ xs ⟨x1, x2, x3, x4⟩, atT ⟨s0, s1, s2, s3⟩ ⟨i0, ⟨i1, i2, i3, i4⟩, ⟨i5, i6, i7, i8⟩⟩ xs ⟨x5, x6, x7, x8⟩], ⟨s0, s1, s2, s3⟩) (gatesL ⟨s0, s1, s2, s3⟩ ⟨i0, ⟨i1, i2, i3, i4⟩, ⟨i5, i6, i7, i8⟩⟩ xs (n + 1))).1)).hi).k, .b (((hullI (overF ⟨x0, ⟨x1, x2, x3, x4⟩, ⟨x5, x6, x7, x8⟩⟩ xs ([atT ⟨s0, s1, s2, s3⟩ ⟨i0, ⟨i1, i2, i3, i4⟩, ⟨i5, i6, i7, i8⟩⟩ xs ⟨x1, x2, x3, x4⟩, atT ⟨s0, s1, s2, s3⟩ ⟨i0, ⟨i1, i2, i3, i4⟩, ⟨i5, i6, i7, i8⟩⟩ xs ⟨x5, x6, x7, x8⟩], ⟨s0, s1, s2, s3⟩) (gatesL ⟨s0, s1, s2, s3⟩ ⟨i0, ⟨i1, i2, i3, i4⟩, ⟨i5, i6, i7, i8⟩⟩ xs (n + 1))).1)).hi).n, .u (((hullI (overF ⟨x0, ⟨x1, x2, x3, x4⟩, ⟨x5, x6, x7, x8⟩⟩ xs ([atT ⟨s0, s1, s2, s3⟩ ⟨i0, ⟨i1, i2, i3, i4⟩, ⟨i5, i6, i7, i8⟩⟩ xs ⟨x1, x2, x3, x4⟩, atT ⟨s0, s1, s2, s3⟩ ⟨i0, ⟨i1, i2, i3, i4⟩, ⟨i5, i6, i7, i8⟩⟩ xs ⟨x5, x6, x7, x8⟩], ⟨s0, s1, s2, s3⟩) (gatesL ⟨s0, s1, s2, s3⟩ ⟨i0, ⟨i1, i2, i3, i4⟩, ⟨i5, i6, i7, i8⟩⟩ xs (n + 1))).1)).hi).m, .i (((hullI (overF ⟨x0, ⟨x1, x2, x3, x4⟩, ⟨x5, x6, x7, x8⟩⟩ xs ([atT ⟨s0, s1, s2, s3⟩ ⟨i0, ⟨i1, i2, i3, i4⟩, ⟨i5, i6, i7, i8⟩⟩ xs ⟨x1, x2, x3, x4⟩, atT ⟨s0, s1, s2, s3⟩ ⟨i0, ⟨i1, i2, i3, i4⟩, ⟨i5, i6, i7, i8⟩⟩ xs ⟨x5, x6, x7, x8⟩], ⟨s0, s1, s2, s3⟩) (gatesL ⟨s0, s1, s2, s3⟩ ⟨i0, ⟨i1, i2, i3, i4⟩, ⟨i5, i6, i7, i8⟩⟩ xs (n + 1))).1)).hi).e]) ∧ Below w.heap.size w w' := by
  refine (callsIn_wide (n := 4)).1 ?_
  refine callsIn_of_wp_marks Tryz.func77 rfl trivial ?_ rfl
  refine wpIn_wide.2 ?_
  simp only [Tryz.ntmps77, List.size_toArray, List.length_cons, List.length_nil, Nat.reduceAdd, Nat.reduceSub, Array.replicate_succ, Array.replicate_zero, List.push_toArray, List.append_toArray, List.nil_append, List.cons_append]
  have BT := ((Blk.new w 37 #[.i s0, .b s1, .u s2, .i s3, .b i0, .i i1, .b i2, .u i3, .i i4, .i i5, .b i6, .u i7, .i i8, .slice A n c]).alloc (.cells #[.b x0, .i x1, .b x2, .u x3, .i x4, .i x5, .b x6, .u x7, .i x8] 34)).alloc (.cells #[.b false, .i 0, .b false, .u 0, .i 0, .i 0, .b false, .u 0, .i 0] 34)
  have BX := (Blk.new1 w (.cells #[.i s0, .b s1, .u s2, .i s3, .b i0, .i i1, .b i2, .u i3, .i i4, .i i5, .b i6, .u i7, .i i8, .slice A n c] 37) 34 #[.b x0, .i x1, .b x2, .u x3, .i x4, .i x5, .b x6, .u x7, .i x8]).alloc (.cells #[.b false, .i 0, .b false, .u 0, .i 0, .i 0, .b false, .u 0, .i 0] 34)
  have BR := Blk.new2 w (.cells #[.i s0, .b s1, .u s2, .i s3, .b i0, .i i1, .b i2, .u i3, .i i4, .i i5, .b i6, .u i7, .i i8, .slice A n c] 37) (.cells #[.b x0, .i x1, .b x2, .u x3, .i x4, .i x5, .b x6, .u x7, .i x8] 34) 34 #[.b false, .i 0, .b false, .u 0, .i 0, .i 0, .b false, .u 0, .i 0]
  have HBd := bl_alloc (bl_alloc (bl_alloc (Below.refl w.heap.size w) (.cells #[.i s0, .b s1, .u s2, .i s3, .b i0, .i i1, .b i2, .u i3, .i i4, .i i5, .b i6, .u i7, .i i8, .slice A n c] 37)) (.cells #[.b x0, .i x1, .b x2, .u x3, .i x4, .i x5, .b x6, .u x7, .i x8] 34)) (.cells #[.b false, .i 0, .b false, .u 0, .i 0, .i 0, .b false, .u 0, .i 0] 34)
  have HM := Lib.hid (fun W h => tmay_calls s0 s1 s2 s3 i0 i1 i2 i3 i4 i5 i6 i7 i8 A n c xs W h)
  have HA := Lib.hid (fun W => mayI_calls x0 x1 x2 x3 x4 x5 x6 x7 x8 W)
  have HE := Lib.hid (fun W h => tend_calls s0 s1 s2 s3 i0 i1 i2 i3 i4 i5 i6 i7 i8 A n c xs W h (by have := hs.1; have := may_len hm; omega))
  generalize endT ⟨s0, s1, s2, s3⟩ xs = zz at HE he
  obtain ⟨z0, z1, z2, z3⟩ := zz
  have HC2 := Lib.hid (fun W => cmpN_calls x5 x6 x7 x8 z0 z1 z2 z3 W)
  generalize hc2 : cmpN ⟨x5, x6, x7, x8⟩ ⟨z0, z1, z2, z3⟩ = c2 at HC2 he
  have heb : Hid (decide (0 < c2) = false) := decide_eq_false he
  have heb2 : Hid (decide (c2 > 0) = false) := decide_eq_false he
  clear he
  clear hc2
  have HP := Lib.hid (fun W h => at_calls s0 s1 s2 s3 i0 i1 i2 i3 i4 i5 i6 i7 i8 A n c xs x1 x2 x3 x4 W h)
  have HQ := Lib.hid (fun W h => at_calls s0 s1 s2 s3 i0 i1 i2 i3 i4 i5 i6 i7 i8 A n c xs x5 x6 x7 x8 W h)
  have hn64 : n ≤ 64 := by have := hs.1; have := may_len hm; omega
  generalize atT ⟨s0, s1, s2, s3⟩ ⟨i0, ⟨i1, i2, i3, i4⟩, ⟨i5, i6, i7, i8⟩⟩ xs ⟨x1, x2, x3, x4⟩ = pp at HP ⊢
  generalize atT ⟨s0, s1, s2, s3⟩ ⟨i0, ⟨i1, i2, i3, i4⟩, ⟨i5, i6, i7, i8⟩⟩ xs ⟨x5, x6, x7, x8⟩ = qq at HQ ⊢
  obtain ⟨p0, ⟨p1, p2, p3, p4⟩, ⟨p5, p6, p7, p8⟩⟩ := pp
  obtain ⟨q0, ⟨q1, q2, q3, q4⟩, ⟨q5, q6, q7, q8⟩⟩ := qq
  rw [hm] at HM
  rw [hx2] at HA
  subst hx
  have HC1 := Lib.hid (fun W => cmpN_calls x1 x2 x3 x4 s0 s1 s2 s3 W)
  generalize hc1 : cmpN ⟨x1, x2, x3, x4⟩ ⟨s0, s1, s2, s3⟩ = c1 at HC1 hd
  clear hc1
  replace hd := Lib.hid hd
  go_wp2_with (first
    | (go_at_call 14; refine (HM.out _ (hs.on HBd)).mono ?_; rintro e w1 ⟨rfl, hb⟩; replace BT := BT.call hb; replace BX := BX.call hb; replace BR := BR.call hb; replace HBd := bl_trans HBd hb; clear hb; obtain ⟨t0, t1, t2, t3, t4, t5, t6, t7, t8, t9, t10, t11, t12, t13⟩ := BT.c14; obtain ⟨⟨y0, y1, y2, y3, y4, y5, y6, y7, y8⟩, _⟩ := BX.c9)
    | (go_at_call 27; (with_reducible refine (HA.out _).mono ?_); rintro e w2 ⟨rfl, hb⟩; replace BT := BT.call hb; replace BX := BX.call hb; replace BR := BR.call hb; replace HBd := bl_trans HBd hb; clear hb))
  clear t0 t1 t2 t3 t4 t5 t6 t7 t8 t9 t10 t11 t12 t13 y0 y1 y2 y3 y4 y5 y6 y7 y8
  replace BT := BT.drew
  replace BX := BX.drew
  replace BR := BR.drew
  replace HBd := bl_drew HBd
  replace hd := hd.out
  refine wp_calm ?_
  have hdb : decide (c1 < 0) = false := decide_eq_false (by omega)
  replace hdb := Lib.hid hdb
  clear hd
  refine start_ (n := 15) (S := fun w' => w'.cell? ⟨w.heap.size, 0, none⟩ = some (.i s0) ∧ w'.cell? ⟨w.heap.size, 1, none⟩ = some (.b s1) ∧ w'.cell? ⟨w.heap.size, 2, none⟩ = some (.u s2) ∧ w'.cell? ⟨w.heap.size, 3, none⟩ = some (.i s3) ∧ w'.cell? ⟨w.heap.size, 4, none⟩ = some (.b i0) ∧ w'.cell? ⟨w.heap.size, 5, none⟩ = some (.i i1) ∧ w'.cell? ⟨w.heap.size, 6, none⟩ = some (.b i2) ∧ w'.cell? ⟨w.heap.size, 7, none⟩ = some (.u i3) ∧ w'.cell? ⟨w.heap.size, 8, none⟩ = some (.i i4) ∧ w'.cell? ⟨w.heap.size, 9, none⟩ = some (.i i5) ∧ w'.cell? ⟨w.heap.size, 10, none⟩ = some (.b i6) ∧ w'.cell? ⟨w.heap.size, 11, none⟩ = some (.u i7) ∧ w'.cell? ⟨w.heap.size, 12, none⟩ = some (.i i8) ∧ w'.cell? ⟨w.heap.size, 13, none⟩ = some (.slice A n c) ∧ w'.cell? ⟨w.heap.size + 1, 0, none⟩ = some (.b false) ∧ w'.cell? ⟨w.heap.size + 1, 1, none⟩ = some (.i x1) ∧ w'.cell? ⟨w.heap.size + 1, 2, none⟩ = some (.b x2) ∧ w'.cell? ⟨w.heap.size + 1, 3, none⟩ = some (.u x3) ∧ w'.cell? ⟨w.heap.size + 1, 4, none⟩ = some (.i x4) ∧ w'.cell? ⟨w.heap.size + 1, 5, none⟩ = some (.i x5) ∧ w'.cell? ⟨w.heap.size + 1, 6, none⟩ = some (.b x6) ∧ w'.cell? ⟨w.heap.size + 1, 7, none⟩ = some (.u x7) ∧ w'.cell? ⟨w.heap.size + 1, 8, none⟩ = some (.i x8)) (ds := []) (bq 15 0) (by kernel_rfl) rfl rfl ⟨BT.cell 0, BT.cell 1, BT.cell 2, BT.cell 3, BT.cell 4, BT.cell 5, BT.cell 6, BT.cell 7, BT.cell 8, BT.cell 9, BT.cell 10, BT.cell 11, BT.cell 12, BT.cell 13, BX.cell 0, BX.cell 1, BX.cell 2, BX.cell 3, BX.cell 4, BX.cell 5, BX.cell 6, BX.cell 7, BX.cell 8⟩ (fun hHeld => ?_)
  generalize hWW : World.drew _ = w3 at BT BX BR HBd hHeld ⊢
  clear hWW
  refine pure_ (i := 0) (N := some 24) (v := ?_) (a' := ?_) (bq 15 1) rfl rfl (by kernel_rfl) (fun _ _ _ h => h) (Or.inl ⟨by rfl, ?_⟩) ?_ ?_
  rotate_left
  · intro w'
    go_simp
    with_reducible rfl
  rotate_left
  · simp only [Act.put, pA, pB, pC]
    rfl
  refine take_ (i := 1) (N := some 25) (v := ?_) (a' := ?_) (bq 15 3) rfl rfl (by kernel_rfl) (fun _ _ _ h => h) (Or.inl ⟨by rfl, ?_⟩) hHeld ?_ ?_
  rotate_left
  · rintro w' ⟨s0_, s1_, s2_, s3_, s4_, s5_, s6_, s7_, s8_, s9_, s10_, s11_, s12_, s13_, s14_, s15_, s16_, s17_, s18_, s19_, s20_, s21_, s22_⟩
    go_simp
    with_reducible rfl
  rotate_left
  · simp only [Act.put, pA, pB, pC]
    rfl
  refine pure_ (i := 2) (N := some 26) (v := ?_) (a' := ?_) (bq 15 7) rfl rfl (by kernel_rfl) (fun _ _ _ h => h) (Or.inl ⟨by rfl, ?_⟩) ?_ ?_
  rotate_left
  · intro w'
    go_simp
    with_reducible rfl
  rotate_left
  · simp only [Act.put, pA, pB, pC]
    rfl
  refine take_ (i := 3) (N := some 27) (v := ?_) (a' := ?_) (bq 15 15) rfl rfl (by kernel_rfl) (fun _ _ _ h => h) (Or.inl ⟨by rfl, ?_⟩) hHeld ?_ ?_
  rotate_left
  · rintro w' ⟨s0_, s1_, s2_, s3_, s4_, s5_, s6_, s7_, s8_, s9_, s10_, s11_, s12_, s13_, s14_, s15_, s16_, s17_, s18_, s19_, s20_, s21_, s22_⟩
    go_simp
    with_reducible rfl
  rotate_left
  · simp only [Act.put, pA, pB, pC]
    rfl
  refine on 4 28 (bq 15 31) (fun K hK => ?_)
  refine goes_ Tryz.func28 (by kernel_rfl) rfl #[.agg #[.i x1, .b x2, .u x3, .i x4], .agg #[.i s0, .b s1, .u s2, .i s3]] (by first | rfl | go_simp) rfl rfl (by simp only [List.map_toArray, List.map_cons, List.map_nil] <;> rfl) ?_
  with_reducible refine (HC1.out _).mono ?_
  rintro e w4 ⟨rfl, hb⟩
  refine ⟨_, rfl, ?_⟩
  replace BT := BT.call hb
  replace BX := BX.call hb
  replace BR := BR.call hb
  replace HBd := bl_trans HBd hb
  refine hK.out _ _ ⟨BT.cell 0, BT.cell 1, BT.cell 2, BT.cell 3, BT.cell 4, BT.cell 5, BT.cell 6, BT.cell 7, BT.cell 8, BT.cell 9, BT.cell 10, BT.cell 11, BT.cell 12, BT.cell 13, BX.cell 0, BX.cell 1, BX.cell 2, BX.cell 3, BX.cell 4, BX.cell 5, BX.cell 6, BX.cell 7, BX.cell 8⟩ (fun hHeld => ?_)
  clear hK K hb
  refine norm_ (a' := ?_) ?_ ?_
  rotate_left
  · show Act.put _ (some 28) _ = _
    simp only [Act.put, pA, pB, pC]
    rfl
  refine pure_ (i := 5) (N := some 29) (v := ?_) (a' := ?_) (bq 15 63) rfl rfl (by kernel_rfl) (fun _ _ _ h => h) (Or.inl ⟨by rfl, ?_⟩) ?_ ?_
  rotate_left
  · intro w'
    go_simp
    with_reducible rfl
  rotate_left
  · simp only [Act.put, pA, pB, pC]
    rfl
  try rw [hdb.out]
  refine pure_ (i := 6) (N := some 30) (v := ?_) (a' := ?_) (bq 15 127) rfl rfl (by kernel_rfl) (fun _ _ _ h => h) (Or.inl ⟨by rfl, ?_⟩) ?_ ?_
  rotate_left
  · intro w'
    go_simp
    with_reducible rfl
  rotate_left
  · simp only [Act.put, pA, pB, pC]
    rfl
  refine pure_ (i := 7) (N := some 31) (v := ?_) (a' := ?_) (bq 15 255) rfl rfl (by kernel_rfl) (fun _ _ _ h => h) (Or.inl ⟨by rfl, ?_⟩) ?_ ?_
  rotate_left
  · intro w'
    go_simp
    with_reducible rfl
  rotate_left
  · simp only [Act.put, pA, pB, pC]
    rfl
  refine take_ (i := 8) (N := some 32) (v := ?_) (a' := ?_) (bq 15 511) rfl rfl (by kernel_rfl) (fun _ _ _ h => h) (Or.inl ⟨by rfl, ?_⟩) hHeld ?_ ?_
  rotate_left
  · rintro w' ⟨s0_, s1_, s2_, s3_, s4_, s5_, s6_, s7_, s8_, s9_, s10_, s11_, s12_, s13_, s14_, s15_, s16_, s17_, s18_, s19_, s20_, s21_, s22_⟩
    go_simp
    with_reducible rfl
  rotate_left
  · simp only [Act.put, pA, pB, pC]
    rfl
  refine take_ (i := 9) (N := some 33) (v := ?_) (a' := ?_) (bq 15 1023) rfl rfl (by kernel_rfl) (fun _ _ _ h => h) (Or.inl ⟨by rfl, ?_⟩) hHeld ?_ ?_
  rotate_left
  · rintro w' ⟨s0_, s1_, s2_, s3_, s4_, s5_, s6_, s7_, s8_, s9_, s10_, s11_, s12_, s13_, s14_, s15_, s16_, s17_, s18_, s19_, s20_, s21_, s22_⟩
    go_simp
    with_reducible rfl
  rotate_left
  · simp only [Act.put, pA, pB, pC]
    rfl
  refine on 10 34 (bq 15 2047) (fun K hK => ?_)
  refine goes_ Tryz.func89 (by kernel_rfl) rfl #[.agg #[.i s0, .b s1, .u s2, .i s3, .b i0, .i i1, .b i2, .u i3, .i i4, .i i5, .b i6, .u i7, .i i8, .slice A n c]] (by first | rfl | go_simp) rfl rfl (by simp only [List.map_toArray, List.map_cons, List.map_nil] <;> rfl) ?_
  with_reducible refine (HE.out _ (hs.on HBd)).mono ?_
  rintro e w5 ⟨rfl, hb⟩
  refine ⟨_, rfl, ?_⟩
  replace BT := BT.call hb
  replace BX := BX.call hb
  replace BR := BR.call hb
  replace HBd := bl_trans HBd hb
  refine hK.out _ _ ⟨BT.cell 0, BT.cell 1, BT.cell 2, BT.cell 3, BT.cell 4, BT.cell 5, BT.cell 6, BT.cell 7, BT.cell 8, BT.cell 9, BT.cell 10, BT.cell 11, BT.cell 12, BT.cell 13, BX.cell 0, BX.cell 1, BX.cell 2, BX.cell 3, BX.cell 4, BX.cell 5, BX.cell 6, BX.cell 7, BX.cell 8⟩ (fun hHeld => ?_)
  clear hK K hb
  refine norm_ (a' := ?_) ?_ ?_
  rotate_left
  · show Act.put _ (some 34) _ = _
    simp only [Act.put, pA, pB, pC]
    rfl
  refine on 11 35 (bq 15 4095) (fun K hK => ?_)
  refine goes_ Tryz.func28 (by kernel_rfl) rfl #[.agg #[.i x5, .b x6, .u x7, .i x8], .agg #[.i z0, .b z1, .u z2, .i z3]] (by first | rfl | go_simp) rfl rfl (by simp only [List.map_toArray, List.map_cons, List.map_nil] <;> rfl) ?_
  with_reducible refine (HC2.out _).mono ?_
  rintro e w6 ⟨rfl, hb⟩
  refine ⟨_, rfl, ?_⟩
  replace BT := BT.call hb
  replace BX := BX.call hb
  replace BR := BR.call hb
  replace HBd := bl_trans HBd hb
  refine hK.out _ _ ⟨BT.cell 0, BT.cell 1, BT.cell 2, BT.cell 3, BT.cell 4, BT.cell 5, BT.cell 6, BT.cell 7, BT.cell 8, BT.cell 9, BT.cell 10, BT.cell 11, BT.cell 12, BT.cell 13, BX.cell 0, BX.cell 1, BX.cell 2, BX.cell 3, BX.cell 4, BX.cell 5, BX.cell 6, BX.cell 7, BX.cell 8⟩ (fun hHeld => ?_)
  clear hK K hb
  refine norm_ (a' := ?_) ?_ ?_
  rotate_left
  · show Act.put _ (some 35) _ = _
    simp only [Act.put, pA, pB, pC]
    rfl
  refine pure_ (i := 12) (N := some 36) (v := ?_) (a' := ?_) (bq 15 8191) rfl rfl (by kernel_rfl) (fun _ _ _ h => h) (Or.inl ⟨by rfl, ?_⟩) ?_ ?_
  rotate_left
  · intro w'
    go_simp
    with_reducible rfl
  rotate_left
  · simp only [Act.put, pA, pB, pC]
    rfl
  first | rw [heb.out] | rw [heb2.out]
  refine pure_ (i := 13) (N := some 37) (v := ?_) (a' := ?_) (bq 15 16383) rfl rfl (by kernel_rfl) (fun _ _ _ h => h) (Or.inl ⟨by rfl, ?_⟩) ?_ ?_
  rotate_left
  · intro w'
    go_simp
    with_reducible rfl
  rotate_left
  · simp only [Act.put, pA, pB, pC]
    rfl
  refine pure_ (i := 14) (N := some 23) (v := ?_) (a' := ?_) (bq 15 32767) rfl rfl (by kernel_rfl) (fun _ _ _ h => h) (Or.inl ⟨by rfl, ?_⟩) ?_ ?_
  rotate_left
  · intro w'
    go_simp
    with_reducible rfl
  rotate_left
  · simp only [Act.put, pA, pB, pC]
    rfl
  refine done_ (by kernel_rfl) ?_
  clear hHeld
  go_wp2_with fail
  replace BT := BT.drew
  replace BX := BX.drew
  replace BR := BR.drew
  replace HBd := bl_drew HBd
  refine wp_calm ?_
  refine start_ (n := 11) (S := fun w' => w'.cell? ⟨w.heap.size, 0, none⟩ = some (.i s0) ∧ w'.cell? ⟨w.heap.size, 1, none⟩ = some (.b s1) ∧ w'.cell? ⟨w.heap.size, 2, none⟩ = some (.u s2) ∧ w'.cell? ⟨w.heap.size, 3, none⟩ = some (.i s3) ∧ w'.cell? ⟨w.heap.size, 4, none⟩ = some (.b i0) ∧ w'.cell? ⟨w.heap.size, 5, none⟩ = some (.i i1) ∧ w'.cell? ⟨w.heap.size, 6, none⟩ = some (.b i2) ∧ w'.cell? ⟨w.heap.size, 7, none⟩ = some (.u i3) ∧ w'.cell? ⟨w.heap.size, 8, none⟩ = some (.i i4) ∧ w'.cell? ⟨w.heap.size, 9, none⟩ = some (.i i5) ∧ w'.cell? ⟨w.heap.size, 10, none⟩ = some (.b i6) ∧ w'.cell? ⟨w.heap.size, 11, none⟩ = some (.u i7) ∧ w'.cell? ⟨w.heap.size, 12, none⟩ = some (.i i8) ∧ w'.cell? ⟨w.heap.size, 13, none⟩ = some (.slice A n c) ∧ w'.cell? ⟨w.heap.size + 1, 0, none⟩ = some (.b false) ∧ w'.cell? ⟨w.heap.size + 1, 1, none⟩ = some (.i x1) ∧ w'.cell? ⟨w.heap.size + 1, 2, none⟩ = some (.b x2) ∧ w'.cell? ⟨w.heap.size + 1, 3, none⟩ = some (.u x3) ∧ w'.cell? ⟨w.heap.size + 1, 4, none⟩ = some (.i x4) ∧ w'.cell? ⟨w.heap.size + 1, 5, none⟩ = some (.i x5) ∧ w'.cell? ⟨w.heap.size + 1, 6, none⟩ = some (.b x6) ∧ w'.cell? ⟨w.heap.size + 1, 7, none⟩ = some (.u x7) ∧ w'.cell? ⟨w.heap.size + 1, 8, none⟩ = some (.i x8)) (ds := [10]) (bq 11 0) (by kernel_rfl) rfl rfl ⟨BT.cell 0, BT.cell 1, BT.cell 2, BT.cell 3, BT.cell 4, BT.cell 5, BT.cell 6, BT.cell 7, BT.cell 8, BT.cell 9, BT.cell 10, BT.cell 11, BT.cell 12, BT.cell 13, BX.cell 0, BX.cell 1, BX.cell 2, BX.cell 3, BX.cell 4, BX.cell 5, BX.cell 6, BX.cell 7, BX.cell 8⟩ (fun hHeld => ?_)
  generalize hWW : World.drew _ = w3 at BT BX BR HBd hHeld ⊢
  clear hWW
  refine pure_ (i := 1) (N := some 40) (v := ?_) (a' := ?_) (bq 11 2) rfl rfl (by kernel_rfl) (fun _ _ _ h => h) (Or.inl ⟨by rfl, ?_⟩) ?_ ?_
  rotate_left
  · intro w'
    go_simp
    with_reducible rfl
  rotate_left
  · simp only [Act.put, pA, pB, pC]
    rfl
  refine take_ (i := 0) (N := some 39) (v := ?_) (a' := ?_) (bq 11 3) rfl rfl (by kernel_rfl) (fun _ _ _ h => h) (Or.inl ⟨by rfl, ?_⟩) hHeld ?_ ?_
  rotate_left
  · rintro w' ⟨s0_, s1_, s2_, s3_, s4_, s5_, s6_, s7_, s8_, s9_, s10_, s11_, s12_, s13_, s14_, s15_, s16_, s17_, s18_, s19_, s20_, s21_, s22_⟩
    go_simp
    with_reducible rfl
  rotate_left
  · simp only [Act.put, pA, pB, pC]
    rfl
  refine take_ (i := 2) (N := some 41) (v := ?_) (a' := ?_) (bq 11 7) rfl rfl (by kernel_rfl) (fun _ _ _ h => h) (Or.inl ⟨by rfl, ?_⟩) hHeld ?_ ?_
  rotate_left
  · rintro w' ⟨s0_, s1_, s2_, s3_, s4_, s5_, s6_, s7_, s8_, s9_, s10_, s11_, s12_, s13_, s14_, s15_, s16_, s17_, s18_, s19_, s20_, s21_, s22_⟩
    go_simp
    with_reducible rfl
  rotate_left
  · simp only [Act.put, pA, pB, pC]
    rfl
  refine take_ (i := 4) (N := some 43) (v := ?_) (a' := ?_) (bq 11 23) rfl rfl (by kernel_rfl) (fun _ _ _ h => h) (Or.inl ⟨by rfl, ?_⟩) hHeld ?_ ?_
  rotate_left
  · rintro w' ⟨s0_, s1_, s2_, s3_, s4_, s5_, s6_, s7_, s8_, s9_, s10_, s11_, s12_, s13_, s14_, s15_, s16_, s17_, s18_, s19_, s20_, s21_, s22_⟩
    go_simp
    with_reducible rfl
  rotate_left
  · simp only [Act.put, pA, pB, pC]
    rfl
  refine pure_ (i := 5) (N := some 44) (v := ?_) (a' := ?_) (bq 11 55) rfl rfl (by kernel_rfl) (fun _ _ _ h => h) (Or.inl ⟨by rfl, ?_⟩) ?_ ?_
  rotate_left
  · intro w'
    go_simp
    with_reducible rfl
  rotate_left
  · simp only [Act.put, pA, pB, pC]
    rfl
  refine take_ (i := 6) (N := some 45) (v := ?_) (a' := ?_) (bq 11 119) rfl rfl (by kernel_rfl) (fun _ _ _ h => h) (Or.inl ⟨by rfl, ?_⟩) hHeld ?_ ?_
  rotate_left
  · rintro w' ⟨s0_, s1_, s2_, s3_, s4_, s5_, s6_, s7_, s8_, s9_, s10_, s11_, s12_, s13_, s14_, s15_, s16_, s17_, s18_, s19_, s20_, s21_, s22_⟩
    go_simp
    with_reducible rfl
  rotate_left
  · simp only [Act.put, pA, pB, pC]
    rfl
  refine join_ (σ := Nat × Nat) 1 (bq 11 1023) (fun s => [(42, .agg #[.b p0, .i p1, .b p2, .u p3, .i p4, .i p5, .b p6, .u p7, .i p8]), (46, .agg #[.b q0, .i q1, .b q2, .u q3, .i q4, .i q5, .b q6, .u q7, .i q8]), (47, .slice (some ⟨s.1, 0, none⟩) 2 2), (5, .pointer (some ⟨s.2, 0, none⟩))]) (fun s w' => Blk w' w.heap.size 37 #[.i s0, .b s1, .u s2, .i s3, .b i0, .i i1, .b i2, .u i3, .i i4, .i i5, .b i6, .u i7, .i i8, .slice A n c] ∧ Blk w' (w.heap.size + 1) 34 #[.b false, .i x1, .b x2, .u x3, .i x4, .i x5, .b x6, .u x7, .i x8] ∧ Blk w' (w.heap.size + 2) 34 #[.b false, .i 0, .b false, .u 0, .i 0, .i 0, .b false, .u 0, .i 0] ∧ Blk w' s.1 34 #[.b p0, .i p1, .b p2, .u p3, .i p4, .i p5, .b p6, .u p7, .i p8, .b q0, .i q1, .b q2, .u q3, .i q4, .i q5, .b q6, .u q7, .i q8] ∧ Blk w' s.2 77 #[.slice none 0 0] ∧ w.heap.size + 2 < s.1 ∧ w.heap.size + 2 < s.2 ∧ Below w.heap.size w w') ?_ (fun hJ => ?_)
  · skip
    rintro ⟨g4, g5⟩ w6 ⟨BT, BX, BR, BS, BL, l4, l5, HBd⟩
    clear hHeld
    refine norm_ (a' := ?_) ?_ ?_
    rotate_left
    · simp only [putAll, Act.put, pA, pB, pC]
      rfl
    dsimp only at BS BL l4 l5
    obtain ⟨k0, f0⟩ := BL.c1_
    refine last_ (i := 10) (N := none) (bq 11 2047) rfl rfl (by kernel_rfl) (by decide) (fun K hK => ?_)
    refine skip_ (w1 := ?_) (by rfl) rfl ?_ ?_
    rotate_left
    · go_simp
      rfl
    refine hK.out _ _ ?_
    clear hK K
    refine done_ (by kernel_rfl) ?_
    have BL5 := BL.set_ 0 (.slice (some ⟨g4, 0, none⟩) 2 2)
    have BT5 := BT.far (p := ⟨g5, 0, none⟩) (by show w.heap.size ≠ g5; omega) (.slice (some ⟨g4, 0, none⟩) 2 2)
    have BX5 := BX.far (p := ⟨g5, 0, none⟩) (by show w.heap.size + 1 ≠ g5; omega) (.slice (some ⟨g4, 0, none⟩) 2 2)
    have BR5 := BR.far (p := ⟨g5, 0, none⟩) (by show w.heap.size + 2 ≠ g5; omega) (.slice (some ⟨g4, 0, none⟩) 2 2)
    have BS5 := BS.far (p := ⟨g5, 0, none⟩) (blk_ne BS BL (by decide)) (.slice (some ⟨g4, 0, none⟩) 2 2)
    have HB5 := HBd.setCell (p := ⟨g5, 0, none⟩) (by show w.heap.size ≤ g5; omega) (.slice (some ⟨g4, 0, none⟩) 2 2)
    generalize w6.setCell ⟨g5, 0, none⟩ (.slice (some ⟨g4, 0, none⟩) 2 2) = W5 at BL5 BT5 BX5 BR5 BS5 HB5 ⊢
    simp only [List.setIfInBounds_toArray, List.set_cons_zero] at BL5
    clear BT BX BR BS BL HBd k0 f0
    obtain ⟨t0, t1, t2, t3, t4, t5, t6, t7, t8, t9, t10, t11, t12, t13⟩ := BT5.c14
    have hT5 := BT5.lt
    go_wp2_with (go_at_call 92; refine (gates_calls s0 s1 s2 s3 i0 i1 i2 i3 i4 i5 i6 i7 i8 A n c _).mono ?_; rintro e w9 ⟨rfl, rfl⟩)
    clear t0 t1 t2 t3 t4 t5 t6 t7 t8 t9 t10 t11 t12 t13
    have BG := Blk.new1 W5 (.cells #[.i s0, .b s1, .u s2, .i s3] 32) 37 #[.i s0, .b s1, .u s2, .i s3, .b i0, .i i1, .b i2, .u i3, .i i4, .i i5, .b i6, .u i7, .i i8, .slice A n c]
    have HB0 := bl_alloc (bl_alloc HB5 (.cells #[.i s0, .b s1, .u s2, .i s3] 32)) (.cells #[.i s0, .b s1, .u s2, .i s3, .b i0, .i i1, .b i2, .u i3, .i i4, .i i5, .b i6, .u i7, .i i8, .slice A n c] 37)
    have hI0 : OvI w ((W5.alloc (.cells #[.i s0, .b s1, .u s2, .i s3] 32)).alloc (.cells #[.i s0, .b s1, .u s2, .i s3, .b i0, .i i1, .b i2, .u i3, .i i4, .i i5, .b i6, .u i7, .i i8, .slice A n c] 37)) #[.i s0, .b s1, .u s2, .i s3, .b i0, .i i1, .b i2, .u i3, .i i4, .i i5, .b i6, .u i7, .i i8, .slice A n c] #[.b false, .i x1, .b x2, .u x3, .i x4, .i x5, .b x6, .u x7, .i x8] #[.b false, .i 0, .b false, .u 0, .i 0, .i 0, .b false, .u 0, .i 0] (W5.heap.size + 1) g5 W5.heap.size [⟨p0, ⟨p1, p2, p3, p4⟩, ⟨p5, p6, p7, p8⟩⟩, ⟨q0, ⟨q1, q2, q3, q4⟩, ⟨q5, q6, q7, q8⟩⟩] ⟨s0, s1, s2, s3⟩ := ⟨_, (BT5.alloc _).alloc _, (BX5.alloc _).alloc _, (BR5.alloc _).alloc _, BG, (BL5.alloc _).alloc _, ((OwnI.lit2 (x := ⟨p0, ⟨p1, p2, p3, p4⟩, ⟨p5, p6, p7, p8⟩⟩) (y := ⟨q0, ⟨q1, q2, q3, q4⟩, ⟨q5, q6, q7, q8⟩⟩) BS5 (by omega)).alloc _).alloc _, by rintro k hk; cases hk; exact l4, (Blk.new W5 _ _).alloc _, HB0⟩
    have hsz : ((W5.alloc (.cells #[.i s0, .b s1, .u s2, .i s3] 32)).alloc (.cells #[.i s0, .b s1, .u s2, .i s3, .b i0, .i i1, .b i2, .u i3, .i i4, .i i5, .b i6, .u i7, .i i8, .slice A n c] 37)).heap.size = W5.heap.size + 2 := by simp
    obtain ⟨W0, hW0⟩ : ∃ W0, (W5.alloc (.cells #[.i s0, .b s1, .u s2, .i s3] 32)).alloc (.cells #[.i s0, .b s1, .u s2, .i s3, .b i0, .i i1, .b i2, .u i3, .i i4, .i i5, .b i6, .u i7, .i i8, .slice A n c] 37) = W0 := ⟨_, rfl⟩
    rw [hW0] at BG HB0 hI0 hsz ⊢
    have hs2 := hs.below HB0
    have h5l : g5 < W5.heap.size := BL5.lt
    have hwl : w.heap.size + 2 < W5.heap.size := BR5.lt
    clear hW0 BT5 BX5 BR5 BS5 BL5 HB5 HM HA HP HQ HE HC1 HC2
    refine (wpIn_wide (n := 4)).1 ?_
    refine rangeT rfl (by omega) (gf := 102) (lb := #[.pointer (some ⟨W5.heap.size + 1, 0, none⟩)]) rfl trivial (enters_of Tryz.func102 (by kernel_rfl) rfl)
      (gates_stops 3 (by omega) (W5.heap.size + 1) w.heap.size W0.heap.size n c A xs s0 s1 s2 s3 i0 i1 i2 i3 i4 i5 i6 i7 i8 hn64 W0 BG HB0.size (Nat.le_refl _) hs2) (fun h k => KpG.trans h k)
      (fun W l o o' hl h1 h2 => KpG.rec_ HB0.size (by omega) W l o o' hl h1 h2) (fun _ => rfl)
      (fun pre W => OvI w W #[.i s0, .b s1, .u s2, .i s3, .b i0, .i i1, .b i2, .u i3, .i i4, .i i5, .b i6, .u i7, .i i8, .slice A n c] #[.b false, .i x1, .b x2, .u x3, .i x4, .i x5, .b x6, .u x7, .i x8] #[.b false, .i 0, .b false, .u 0, .i 0, .i 0, .b false, .u 0, .i 0] (W5.heap.size + 1) g5 W5.heap.size (overF ⟨false, ⟨x1, x2, x3, x4⟩, ⟨x5, x6, x7, x8⟩⟩ xs ([⟨p0, ⟨p1, p2, p3, p4⟩, ⟨p5, p6, p7, p8⟩⟩, ⟨q0, ⟨q1, q2, q3, q4⟩, ⟨q5, q6, q7, q8⟩⟩], ⟨s0, s1, s2, s3⟩) pre).1 (overF ⟨false, ⟨x1, x2, x3, x4⟩, ⟨x5, x6, x7, x8⟩⟩ xs ([⟨p0, ⟨p1, p2, p3, p4⟩, ⟨p5, p6, p7, p8⟩⟩, ⟨q0, ⟨q1, q2, q3, q4⟩, ⟨q5, q6, q7, q8⟩⟩], ⟨s0, s1, s2, s3⟩) pre).2)
      (fun _ _ _ => False) ?hI ?hIx ?h0
      (fun x a' W => ∃ P : Nat, W5.heap.size + 1 < P ∧ Blk W P 122 (gateCells x.2.1 x.2.2).toArray ∧ ∃ y : Nat → Value, a' = { tmps := #[y 0, y 1, .pointer (some ⟨w.heap.size, 0, none⟩), .pointer (some ⟨w.heap.size + 1, 0, none⟩), .pointer (some ⟨w.heap.size + 2, 0, none⟩), .pointer (some ⟨g5, 0, none⟩), .pointer (some ⟨W5.heap.size, 0, none⟩), .i x.1, .pointer (some ⟨P, 0, none⟩), y 9, y 10, y 11, y 12, y 13, y 14, y 15, y 16, y 17, y 18, y 19, y 20, y 21, y 22, y 23, y 24, y 25, y 26, y 27, y 28, y 29, y 30, y 31, y 32, y 33, y 34, y 35, y 36, y 37, y 38, y 39, y 40, y 41, y 42, y 43, y 44, y 45, y 46, y 47, y 48, y 49, y 50, y 51, y 52, y 53, y 54, y 55, y 56, y 57, y 58, y 59, y 60, y 61, y 62, y 63, y 64, y 65, y 66, y 67, y 68, y 69, y 70, y 71, y 72, y 73, y 74, y 75, y 76, y 77, y 78, y 79, y 80, y 81, y 82, y 83, y 84, y 85, y 86, y 87, y 88, y 89, y 90, y 91, y 92, y 93, y 94, y 95, y 96, y 97, y 98, y 99, y 100, y 101], defers := [] })
      ?hAx ?assign ?body ?done ?stop
    case hI => exact OvI.stay (L := fun pre => (overF ⟨false, ⟨x1, x2, x3, x4⟩, ⟨x5, x6, x7, x8⟩⟩ xs ([⟨p0, ⟨p1, p2, p3, p4⟩, ⟨p5, p6, p7, p8⟩⟩, ⟨q0, ⟨q1, q2, q3, q4⟩, ⟨q5, q6, q7, q8⟩⟩], ⟨s0, s1, s2, s3⟩) pre).1) (f := fun pre => (overF ⟨false, ⟨x1, x2, x3, x4⟩, ⟨x5, x6, x7, x8⟩⟩ xs ([⟨p0, ⟨p1, p2, p3, p4⟩, ⟨p5, p6, p7, p8⟩⟩, ⟨q0, ⟨q1, q2, q3, q4⟩, ⟨q5, q6, q7, q8⟩⟩], ⟨s0, s1, s2, s3⟩) pre).2) (by omega) (by omega) (by omega) (by omega)
    case hIx => exact fun c s X Y row h _ _ => h.elim
    case h0 => exact hI0
    case hAx =>
      rintro x a' X l o o' ⟨P, hP, hb, ha⟩ hl h1 hc
      exact ⟨P, hP, (World.putObj_heap_other (by intro e; subst e; rw [show X.heap[P]? = _ from hb] at h1; cases h1; cases hc)).trans hb, ha⟩
    case assign =>
      rintro l pre ⟨k, ⟨u0, u1, u2, u3⟩, ⟨v0, ⟨v1, v2, v3, v4⟩, ⟨v5, v6, v7, v8⟩⟩⟩ W K hI hK
      have hb2 : Below W.heap.size W (W.alloc (.cells (gateCells ⟨u0, u1, u2, u3⟩ ⟨v0, ⟨v1, v2, v3, v4⟩, ⟨v5, v6, v7, v8⟩⟩).toArray 122)) := bl_alloc (Below.refl _ _) _
      have hNW : W5.heap.size + 1 < W.heap.size := by obtain ⟨vv, h1, h2, h3, h4, h5, h6, h7, h8, h9⟩ := hI; exact h4.lt
      have hwW : w.heap.size ≤ W.heap.size := by omega
      replace hI := Lib.hid (hI.call hb2)
      replace hK := Lib.hid hK
      dsimp only [encG, gateCells]
      gi_wp2
      exact hK.out _ _ (keepsFrom_bel hb2 _) (KpG.call hb2 hwW hNW) hI.out ⟨W.heap.size, hNW, Blk.new W _ _, act_any _ (fun y => #[y 0, y 1, .pointer (some ⟨w.heap.size, 0, none⟩), .pointer (some ⟨w.heap.size + 1, 0, none⟩), .pointer (some ⟨w.heap.size + 2, 0, none⟩), .pointer (some ⟨g5, 0, none⟩), .pointer (some ⟨W5.heap.size, 0, none⟩), .i k, .pointer (some ⟨W.heap.size, 0, none⟩), y 9, y 10, y 11, y 12, y 13, y 14, y 15, y 16, y 17, y 18, y 19, y 20, y 21, y 22, y 23, y 24, y 25, y 26, y 27, y 28, y 29, y 30, y 31, y 32, y 33, y 34, y 35, y 36, y 37, y 38, y 39, y 40, y 41, y 42, y 43, y 44, y 45, y 46, y 47, y 48, y 49, y 50, y 51, y 52, y 53, y 54, y 55, y 56, y 57, y 58, y 59, y 60, y 61, y 62, y 63, y 64, y 65, y 66, y 67, y 68, y 69, y 70, y 71, y 72, y 73, y 74, y 75, y 76, y 77, y 78, y 79, y 80, y 81, y 82, y 83, y 84, y 85, y 86, y 87, y 88, y 89, y 90, y 91, y 92, y 93, y 94, y 95, y 96, y 97, y 98, y 99, y 100, y 101]) rfl rfl⟩
    case body =>
      rintro l pre ⟨k, ⟨u0, u1, u2, u3⟩, ⟨v0, ⟨v1, v2, v3, v4⟩, ⟨v5, v6, v7, v8⟩⟩⟩ a' W hl hI ⟨P, hP, bP, y, rfl⟩ hlen
      have hpl : pre.length ≤ n := by obtain ⟨k2, h1, h2⟩ := hlen; have h3 := congrArg List.length h2; rw [gatesL_length] at h3; simp only [List.length_append, List.length_cons, List.length_nil] at h3; omega
      have hkn : k ≤ n := by obtain ⟨k2, h1, h2⟩ := hlen; have := gates_last h2; dsimp only at this; omega
      dsimp only [gateCells] at bP ⊢
      have hln := overF_length ⟨false, ⟨x1, x2, x3, x4⟩, ⟨x5, x6, x7, x8⟩⟩ xs pre ([⟨p0, ⟨p1, p2, p3, p4⟩, ⟨p5, p6, p7, p8⟩⟩, ⟨q0, ⟨q1, q2, q3, q4⟩, ⟨q5, q6, q7, q8⟩⟩], ⟨s0, s1, s2, s3⟩)
      have hsn := overF_snoc ⟨false, ⟨x1, x2, x3, x4⟩, ⟨x5, x6, x7, x8⟩⟩ xs ([⟨p0, ⟨p1, p2, p3, p4⟩, ⟨p5, p6, p7, p8⟩⟩, ⟨q0, ⟨q1, q2, q3, q4⟩, ⟨q5, q6, q7, q8⟩⟩], ⟨s0, s1, s2, s3⟩) pre (k, ⟨u0, u1, u2, u3⟩, ⟨v0, ⟨v1, v2, v3, v4⟩, ⟨v5, v6, v7, v8⟩⟩)
      generalize (overF ⟨false, ⟨x1, x2, x3, x4⟩, ⟨x5, x6, x7, x8⟩⟩ xs ([⟨p0, ⟨p1, p2, p3, p4⟩, ⟨p5, p6, p7, p8⟩⟩, ⟨q0, ⟨q1, q2, q3, q4⟩, ⟨q5, q6, q7, q8⟩⟩], ⟨s0, s1, s2, s3⟩) pre) = st at hI hln hsn
      obtain ⟨L, f0, f1, f2, f3⟩ := st
      dsimp only at hI hln hsn
      simp only [List.length_cons, List.length_nil] at hln
      have HH := Lib.hid (fun W => hasI_calls false x1 x2 x3 x4 x5 x6 x7 x8 u0 u1 u2 u3 W)
      have HC1 := Lib.hid (fun W => cmpN_calls x1 x2 x3 x4 x5 x6 x7 x8 W)
      have HC2 := Lib.hid (fun W => cmpN_calls x1 x2 x3 x4 u0 u1 u2 u3 W)
      have HC3 := Lib.hid (fun W => cmpN_calls f0 f1 f2 f3 x5 x6 x7 x8 W)
      replace hsn : (overF ⟨false, ⟨x1, x2, x3, x4⟩, ⟨x5, x6, x7, x8⟩⟩ xs ([⟨p0, ⟨p1, p2, p3, p4⟩, ⟨p5, p6, p7, p8⟩⟩, ⟨q0, ⟨q1, q2, q3, q4⟩, ⟨q5, q6, q7, q8⟩⟩], ⟨s0, s1, s2, s3⟩) (pre ++ [(k, ⟨u0, u1, u2, u3⟩, ⟨v0, ⟨v1, v2, v3, v4⟩, ⟨v5, v6, v7, v8⟩⟩)])) = (L ++ ((if hasI ⟨false, ⟨x1, x2, x3, x4⟩, ⟨x5, x6, x7, x8⟩⟩ ⟨u0, u1, u2, u3⟩ = true then [⟨v0, ⟨v1, v2, v3, v4⟩, ⟨v5, v6, v7, v8⟩⟩] else []) ++ (if 0 < k ∧ cmpN ⟨x1, x2, x3, x4⟩ ⟨x5, x6, x7, x8⟩ < 0 ∧ cmpN ⟨x1, x2, x3, x4⟩ ⟨u0, u1, u2, u3⟩ < 0 ∧ cmpN ⟨f0, f1, f2, f3⟩ ⟨x5, x6, x7, x8⟩ < 0 then [(sliceAt xs (k - 1)).a] else [])), ⟨u0, u1, u2, u3⟩) := hsn
      generalize hasI ⟨false, ⟨x1, x2, x3, x4⟩, ⟨x5, x6, x7, x8⟩⟩ ⟨u0, u1, u2, u3⟩ = hh at HH hsn
      generalize cmpN ⟨x1, x2, x3, x4⟩ ⟨x5, x6, x7, x8⟩ = c1 at HC1 hsn
      generalize cmpN ⟨x1, x2, x3, x4⟩ ⟨u0, u1, u2, u3⟩ = c2 at HC2 hsn
      generalize cmpN ⟨f0, f1, f2, f3⟩ ⟨x5, x6, x7, x8⟩ = c3 at HC3 hsn
      generalize hF : (overF ⟨false, ⟨x1, x2, x3, x4⟩, ⟨x5, x6, x7, x8⟩⟩ xs ([⟨p0, ⟨p1, p2, p3, p4⟩, ⟨p5, p6, p7, p8⟩⟩, ⟨q0, ⟨q1, q2, q3, q4⟩, ⟨q5, q6, q7, q8⟩⟩], ⟨s0, s1, s2, s3⟩) (pre ++ [(k, ⟨u0, u1, u2, u3⟩, ⟨v0, ⟨v1, v2, v3, v4⟩, ⟨v5, v6, v7, v8⟩⟩)])) = st2 at hsn
      have Hsn := Lib.hid hsn
      have HF := Lib.hid hF
      clear hsn hF
      have hlL : L.length ≤ 200 := by omega
      refine wpIn_block ?_
      refine wpIn_seq ?_
      obtain ⟨R, hR⟩ : ∃ R : Act → World → Prop, R = (fun az Wz => (∃ y : Nat → Value, az = { tmps := #[y 0, y 1, .pointer (some ⟨w.heap.size, 0, none⟩), .pointer (some ⟨w.heap.size + 1, 0, none⟩), .pointer (some ⟨w.heap.size + 2, 0, none⟩), .pointer (some ⟨g5, 0, none⟩), .pointer (some ⟨W5.heap.size, 0, none⟩), .i k, .pointer (some ⟨P, 0, none⟩), y 9, y 10, y 11, y 12, y 13, y 14, y 15, y 16, y 17, y 18, y 19, y 20, y 21, y 22, y 23, y 24, y 25, y 26, y 27, y 28, y 29, y 30, y 31, y 32, y 33, y 34, y 35, y 36, y 37, y 38, y 39, y 40, y 41, y 42, y 43, y 44, y 45, y 46, y 47, y 48, y 49, y 50, y 51, y 52, y 53, y 54, y 55, y 56, y 57, y 58, y 59, y 60, y 61, y 62, y 63, y 64, y 65, y 66, y 67, y 68, y 69, y 70, y 71, y 72, y 73, y 74, y 75, y 76, y 77, y 78, y 79, y 80, y 81, y 82, y 83, y 84, y 85, y 86, y 87, y 88, y 89, y 90, y 91, y 92, y 93, y 94, y 95, y 96, y 97, y 98, y 99, y 100, y 101], defers := [] }) ∧ OvI w Wz #[.i s0, .b s1, .u s2, .i s3, .b i0, .i i1, .b i2, .u i3, .i i4, .i i5, .b i6, .u i7, .i i8, .slice A n c] #[.b false, .i x1, .b x2, .u x3, .i x4, .i x5, .b x6, .u x7, .i x8] #[.b false, .i 0, .b false, .u 0, .i 0, .i 0, .b false, .u 0, .i 0] (W5.heap.size + 1) g5 W5.heap.size (L ++ (if hh = true then [⟨v0, ⟨v1, v2, v3, v4⟩, ⟨v5, v6, v7, v8⟩⟩] else [])) ⟨f0, f1, f2, f3⟩ ∧ Stp W0.heap.size w.heap.size W0.heap.size (W5.heap.size + 1) W Wz ∧ Blk Wz P 122 #[.i u0, .b u1, .u u2, .i u3, .b v0, .i v1, .b v2, .u v3, .i v4, .i v5, .b v6, .u v7, .i v8]) := ⟨_, rfl⟩
      refine wpIn_joinQ R ?_ ?_
      · obtain ⟨vv, h1, h2, h3, h4, h5, h6, h7, h8, h9⟩ := hI
        have hNW := h4.lt
        obtain ⟨⟨q0, q1, q2, q3, q4, q5, q6, q7, q8⟩, _⟩ := h2.c9
        obtain ⟨t0, t1, t2, t3, t4, t5, t6, t7, t8, t9, t10, t11, t12⟩ := bP.c13
        obtain ⟨A0, n0, d0, rfl⟩ := h6.form_
        have H6 := Lib.hid h6
        have H7 := Lib.hid h7
        have h9s := h9.size
        cases hh
        · gi_wp2_with (refine ⟨trivial, ?_⟩; gi_at_call 75; refine (CallsIn.inRound l (callsIn_wide.2 (HH.out _))).mono ?_; rintro e w2 ⟨rfl, hb⟩)
          rw [hR]
          exact ⟨act_any _ (fun y => #[y 0, y 1, .pointer (some ⟨w.heap.size, 0, none⟩), .pointer (some ⟨w.heap.size + 1, 0, none⟩), .pointer (some ⟨w.heap.size + 2, 0, none⟩), .pointer (some ⟨g5, 0, none⟩), .pointer (some ⟨W5.heap.size, 0, none⟩), .i k, .pointer (some ⟨P, 0, none⟩), y 9, y 10, y 11, y 12, y 13, y 14, y 15, y 16, y 17, y 18, y 19, y 20, y 21, y 22, y 23, y 24, y 25, y 26, y 27, y 28, y 29, y 30, y 31, y 32, y 33, y 34, y 35, y 36, y 37, y 38, y 39, y 40, y 41, y 42, y 43, y 44, y 45, y 46, y 47, y 48, y 49, y 50, y 51, y 52, y 53, y 54, y 55, y 56, y 57, y 58, y 59, y 60, y 61, y 62, y 63, y 64, y 65, y 66, y 67, y 68, y 69, y 70, y 71, y 72, y 73, y 74, y 75, y 76, y 77, y 78, y 79, y 80, y 81, y 82, y 83, y 84, y 85, y 86, y 87, y 88, y 89, y 90, y 91, y 92, y 93, y 94, y 95, y 96, y 97, y 98, y 99, y 100, y 101]) rfl rfl, by rw [if_neg (by simp), List.append_nil]; exact OvI.from5 (h1.call hb) (h2.call hb) (h3.call hb) (h4.call hb) (h5.call hb) (H6.out.call hb) H7.out (h8.call hb) (bl_trans h9 hb), Stp.call hb h9s hNW, bP.call hb⟩
        · gi_wp2_with (first
            | (refine ⟨trivial, ?_⟩; gi_at_call 75; refine (CallsIn.inRound l (callsIn_wide.2 (HH.out _))).mono ?_; rintro e w2 ⟨rfl, hb⟩; clear t0 t1 t2 t3 t4 t5 t6 t7 t8 t9 t10 t11 t12; have b2 := bP.call hb; obtain ⟨t0, t1, t2, t3, t4, t5, t6, t7, t8, t9, t10, t11, t12⟩ := b2.c13; obtain ⟨k5, _⟩ := (h5.call hb).c1_)
            | (refine wpListIn_appI (by rfl) (.tmp 58) (.tmp 61) (by rfl) w.heap.size (.slice A0 n0 d0) L (by rfl) ((H6.out.call hb).alloc (.cells #[.b v0, .i v1, .b v2, .u v3, .i v4, .i v5, .b v6, .u v7, .i v8] 34)) (w2.heap.size + 1) ⟨w2.heap.size, 0, none⟩ 1 1 [⟨v0, ⟨v1, v2, v3, v4⟩, ⟨v5, v6, v7, v8⟩⟩] (by rfl) (SlI.lit1_ (Blk.new w2 _ _) (by omega)) (by omega) (Nat.le_trans h9s (Nat.le_trans hb.size (by simp))) ?_
               intro v3 w3 O3 hg3 hat3
               obtain ⟨A3, n3, d3, rfl⟩ := O3.form_
               have FIN := OvI.app (f := ⟨f0, f1, f2, f3⟩) (B := W0.heap.size) (n₁ := W0.heap.size) h9 h1 h2 h3 h4 h5 H6.out H7.out h8 (bl_alloc hb _) O3 hg3 hat3 l5
               have k3 := ((h5.call hb).alloc (.cells #[.b v0, .i v1, .b v2, .u v3, .i v4, .i v5, .b v6, .u v7, .i v8] 34)).grown hg3 (by intro e; obtain ⟨cur, hc⟩ := ((H6.out.call hb).alloc (.cells #[.b v0, .i v1, .b v2, .u v3, .i v4, .i v5, .b v6, .u v7, .i v8] 34)).cells_ e.symm; exact blk_ne hc ((h5.call hb).alloc (.cells #[.b v0, .i v1, .b v2, .u v3, .i v4, .i v5, .b v6, .u v7, .i v8] 34)) (by decide) rfl)
               clear k5
               obtain ⟨k5, kf5⟩ := k3.c1_))
          rw [hR]
          exact ⟨act_any _ (fun y => #[y 0, y 1, .pointer (some ⟨w.heap.size, 0, none⟩), .pointer (some ⟨w.heap.size + 1, 0, none⟩), .pointer (some ⟨w.heap.size + 2, 0, none⟩), .pointer (some ⟨g5, 0, none⟩), .pointer (some ⟨W5.heap.size, 0, none⟩), .i k, .pointer (some ⟨P, 0, none⟩), y 9, y 10, y 11, y 12, y 13, y 14, y 15, y 16, y 17, y 18, y 19, y 20, y 21, y 22, y 23, y 24, y 25, y 26, y 27, y 28, y 29, y 30, y 31, y 32, y 33, y 34, y 35, y 36, y 37, y 38, y 39, y 40, y 41, y 42, y 43, y 44, y 45, y 46, y 47, y 48, y 49, y 50, y 51, y 52, y 53, y 54, y 55, y 56, y 57, y 58, y 59, y 60, y 61, y 62, y 63, y 64, y 65, y 66, y 67, y 68, y 69, y 70, y 71, y 72, y 73, y 74, y 75, y 76, y 77, y 78, y 79, y 80, y 81, y 82, y 83, y 84, y 85, y 86, y 87, y 88, y 89, y 90, y 91, y 92, y 93, y 94, y 95, y 96, y 97, y 98, y 99, y 100, y 101]) rfl rfl, by rw [if_pos (by simp)]; exact FIN.1, FIN.2, FIN.2.2.2.2 P _ (by omega) bP⟩
      · intro a2 W2 hRR
        rw [hR] at hRR
        obtain ⟨⟨y, rfl⟩, hI, hS, bP⟩ := hRR
        have hlL2 : (L ++ (if hh = true then ([⟨v0, ⟨v1, v2, v3, v4⟩, ⟨v5, v6, v7, v8⟩⟩] : List Iv) else [])).length ≤ 300 := by rw [List.length_append]; split <;> simp <;> omega
        replace Hsn : Hid (st2 = ((L ++ (if hh = true then [⟨v0, ⟨v1, v2, v3, v4⟩, ⟨v5, v6, v7, v8⟩⟩] else [])) ++ (if 0 < k ∧ c1 < 0 ∧ c2 < 0 ∧ c3 < 0 then [(sliceAt xs (k - 1)).a] else []), ⟨u0, u1, u2, u3⟩)) := by have h := Hsn.out; rw [h, List.append_assoc]; exact Lib.hid rfl
        generalize (L ++ (if hh = true then [⟨v0, ⟨v1, v2, v3, v4⟩, ⟨v5, v6, v7, v8⟩⟩] else [])) = L2 at hI hlL2 Hsn
        clear hR
        obtain ⟨vv, h1, h2, h3, h4, h5, h6, h7, h8, h9⟩ := hI
        have hNW := h4.lt
        have h9s := h9.size
        obtain ⟨A0, n0, d0, rfl⟩ := h6.form_
        have H6 := Lib.hid h6
        have H7 := Lib.hid h7
        have HS := Lib.hid hS
        clear h6 h7 hS
        obtain ⟨t0, t1, t2, t3, t4, t5, t6, t7, t8, t9, t10, t11, t12⟩ := bP.c13
        obtain ⟨⟨q0, q1, q2, q3, q4, q5, q6, q7, q8⟩, _⟩ := h2.c9
        obtain ⟨⟨m0, m1, m2, m3⟩, _⟩ := h8.c4
        rcases Nat.eq_zero_or_pos k with hk0 | hk0
        · subst hk0
          gi_wp2_with (first
            | (refine wpListIn_storeM rfl 32 (.tmp 6) (.tmp 99) rfl W5.heap.size _ #[.i u0, .b u1, .u u2, .i u3] h8 rfl rfl (by kernel_rfl) rfl (by simp [Value.oneCell']) ?_; intro W9 B9 P9)
            | refine ⟨trivial, ?_⟩)
          have FIN := (OvI.from5 (f := ⟨f0, f1, f2, f3⟩) h1 h2 h3 h4 h5 H6.out H7.out h8 h9).put6 (n₁ := W0.heap.size) (B := W0.heap.size) (u := ⟨u0, u1, u2, u3⟩) P9 B9 hwl
          have STP := HS.out.trans FIN.2
          refine ⟨by first | exact STP.1 | (rw [← hsz]; exact STP.1), by first | exact STP.2 | (rw [← hsz]; exact STP.2), ?_⟩
          show OvI _ _ _ _ _ _ _ _ _ _
          rw [HF.out, Hsn.out]
          rw [if_neg (show ¬ (0 < 0 ∧ c1 < 0 ∧ c2 < 0 ∧ c3 < 0) by omega), List.append_nil]
          exact FIN.1
        · have hkI : (0 : Int) < (k : Int) := by omega
          by_cases g1 : c1 < 0
          · by_cases g2 : c2 < 0
            · by_cases g3 : c3 < 0
              · obtain ⟨j, rfl⟩ : ∃ j, k = j + 1 := ⟨k - 1, by omega⟩
                have em : (((j + 1 : Nat) : Int) - 1) = j := by omega
                have hjn : j < n := by omega
                have hwr : IntKind.i64.wrap (j : Int) = (j : Int) := wrap_i (by omega) (by omega)
                gi_wp2_with (first
                  | (refine ⟨trivial, ?_⟩; gi_at_call 28; (with_reducible refine (CallsIn.inRound l (callsIn_wide.2 (HC1.out _))).mono ?_); rintro e w2 ⟨rfl, hb⟩; replace h1 := h1.call hb; replace h2 := h2.call hb; replace h3 := h3.call hb; replace h4 := h4.call hb; replace h5 := h5.call hb; replace H6 := Lib.hid (H6.out.call hb); replace h8 := h8.call hb; replace h9 := bl_trans h9 hb; replace bP := bP.call hb; replace HS := Lib.hid (HS.out.trans (Stp.call hb h9s hNW)); replace h9s := h9.size; replace hNW := h4.lt; clear hb t0 t1 t2 t3 t4 t5 t6 t7 t8 t9 t10 t11 t12 q0 q1 q2 q3 q4 q5 q6 q7 q8 m0 m1 m2 m3; obtain ⟨t0, t1, t2, t3, t4, t5, t6, t7, t8, t9, t10, t11, t12⟩ := bP.c13; obtain ⟨⟨q0, q1, q2, q3, q4, q5, q6, q7, q8⟩, _⟩ := h2.c9; obtain ⟨⟨m0, m1, m2, m3⟩, _⟩ := h8.c4)
                  | (refine ⟨trivial, ?_⟩; gi_at_call 28; (with_reducible refine (CallsIn.inRound l (callsIn_wide.2 (HC2.out _))).mono ?_); rintro e w3_ ⟨rfl, hb⟩; replace h1 := h1.call hb; replace h2 := h2.call hb; replace h3 := h3.call hb; replace h4 := h4.call hb; replace h5 := h5.call hb; replace H6 := Lib.hid (H6.out.call hb); replace h8 := h8.call hb; replace h9 := bl_trans h9 hb; replace bP := bP.call hb; replace HS := Lib.hid (HS.out.trans (Stp.call hb h9s hNW)); replace h9s := h9.size; replace hNW := h4.lt; clear hb t0 t1 t2 t3 t4 t5 t6 t7 t8 t9 t10 t11 t12 q0 q1 q2 q3 q4 q5 q6 q7 q8 m0 m1 m2 m3; obtain ⟨t0, t1, t2, t3, t4, t5, t6, t7, t8, t9, t10, t11, t12⟩ := bP.c13; obtain ⟨⟨q0, q1, q2, q3, q4, q5, q6, q7, q8⟩, _⟩ := h2.c9; obtain ⟨⟨m0, m1, m2, m3⟩, _⟩ := h8.c4)
                  | (refine ⟨trivial, ?_⟩; gi_at_call 28; (with_reducible refine (CallsIn.inRound l (callsIn_wide.2 (HC3.out _))).mono ?_); rintro e w4_ ⟨rfl, hb⟩; replace h1 := h1.call hb; replace h2 := h2.call hb; replace h3 := h3.call hb; replace h4 := h4.call hb; replace h5 := h5.call hb; replace H6 := Lib.hid (H6.out.call hb); replace h8 := h8.call hb; replace h9 := bl_trans h9 hb; replace bP := bP.call hb; replace HS := Lib.hid (HS.out.trans (Stp.call hb h9s hNW)); replace h9s := h9.size; replace hNW := h4.lt; clear hb t0 t1 t2 t3 t4 t5 t6 t7 t8 t9 t10 t11 t12 q0 q1 q2 q3 q4 q5 q6 q7 q8 m0 m1 m2 m3; obtain ⟨t0, t1, t2, t3, t4, t5, t6, t7, t8, t9, t10, t11, t12⟩ := bP.c13; obtain ⟨⟨q0, q1, q2, q3, q4, q5, q6, q7, q8⟩, _⟩ := h2.c9; obtain ⟨⟨m0, m1, m2, m3⟩, _⟩ := h8.c4))
                obtain ⟨b, off, rr, rfl, hbB, hz, hc⟩ := (hs.below h9).at_ hjn
                have hsl : sliceAt xs (j + 1 - 1) = rr := by rw [Nat.add_sub_cancel]; unfold sliceAt; rw [List.getD_eq_getElem?_getD, hz]; rfl
                obtain ⟨re, ⟨r0, ⟨r1, r2, r3, r4⟩, ⟨r5, r6, r7, r8⟩⟩, ro⟩ := rr
                have e0 : w4_.cell? ⟨b, off + j * 22 + 4, none⟩ = some (.b r0) := hc 4 _ rfl
                have e1 : w4_.cell? ⟨b, off + j * 22 + 5, none⟩ = some (.i r1) := hc 5 _ rfl
                have e2 : w4_.cell? ⟨b, off + j * 22 + 6, none⟩ = some (.b r2) := hc 6 _ rfl
                have e3 : w4_.cell? ⟨b, off + j * 22 + 7, none⟩ = some (.u r3) := hc 7 _ rfl
                have e4 : w4_.cell? ⟨b, off + j * 22 + 8, none⟩ = some (.i r4) := hc 8 _ rfl
                have e5 : w4_.cell? ⟨b, off + j * 22 + 9, none⟩ = some (.i r5) := hc 9 _ rfl
                have e6 : w4_.cell? ⟨b, off + j * 22 + 10, none⟩ = some (.b r6) := hc 10 _ rfl
                have e7 : w4_.cell? ⟨b, off + j * 22 + 11, none⟩ = some (.u r7) := hc 11 _ rfl
                have e8 : w4_.cell? ⟨b, off + j * 22 + 12, none⟩ = some (.i r8) := hc 12 _ rfl
                have hbl : b < w4_.heap.size := by have := h9.size; omega
                have Hsl := Lib.hid hsl
                have s13 := h1.cell 13
                simp only [List.getElem?_toArray, List.getElem?_cons_zero, List.getElem?_cons_succ] at s13
                have hT4 := h1.lt
                have hg4 := h5.lt
                obtain ⟨k5, kf5⟩ := h5.c1_
                clear t0 t1 t2 t3 t4 t5 t6 t7 t8 t9 t10 t11 t12 q0 q1 q2 q3 q4 q5 q6 q7 q8 m0 m1 m2 m3 hz hc hsl
                refine wpIn_region_any (by kernel_rfl) ?_
                change wpAnyIn _ _ _ _ _ _ _ _ _ (World.drew _)
                refine wpAnyIn_inRound l rfl rfl _ _ _ _ ?_
                refine wpAnyIn_take (i := 1) (v := ?_) rfl rfl (by kernel_rfl) (by kernel_rfl) (by kernel_rfl) (fun _ _ _ h => h) ⟨Or.inl ⟨by rfl, ?_⟩, fun _ => rfl⟩ ?_
                rotate_left
                · intro w_
                  go_simp
                  try with_reducible rfl
                refine wpAnyIn_take (i := 3) (v := ?_) rfl rfl (by kernel_rfl) (by kernel_rfl) (by kernel_rfl) (fun _ _ _ h => h) ⟨Or.inl ⟨by rfl, ?_⟩, fun _ => rfl⟩ ?_
                rotate_left
                · intro w_
                  go_simp
                  try with_reducible rfl
                refine wpAnyIn_take (i := 4) (v := ?_) rfl rfl (by kernel_rfl) (by kernel_rfl) (by kernel_rfl) (fun _ _ _ h => h) ⟨Or.inl ⟨by rfl, ?_⟩, fun _ => rfl⟩ ?_
                rotate_left
                · intro w_
                  go_simp
                  try with_reducible rfl
                refine wpAnyIn_ready (rs := [0, 2]) (by kernel_rfl) (by simp) ?_
                refine AllReadyIn.cons rfl (fun K hK => ?_) ?_
                · skip
                  go_simp
                  refine hK _ _ ?_
                  clear hK K
                  refine wpAnyIn_ready (rs := [2]) (by kernel_rfl) (by simp) ?_
                  refine AllReadyIn.cons rfl (fun K hK => ?_) ?_
                  · skip
                    go_simp
                    refine hK _ _ ?_
                    clear hK K
                    refine wpAnyIn_take (i := 5) (v := ?_) rfl rfl (by kernel_rfl) (by kernel_rfl) (by kernel_rfl) (fun _ _ _ h => h) ⟨Or.inl ⟨by rfl, ?_⟩, fun _ => rfl⟩ ?_
                    rotate_left
                    · intro w_
                      go_simp
                      try with_reducible rfl
                    refine wpAnyIn_take (i := 6) (v := ?_) rfl rfl (by kernel_rfl) (by kernel_rfl) (by kernel_rfl) (fun _ _ _ h => h) ⟨Or.inl ⟨by rfl, ?_⟩, fun _ => rfl⟩ ?_
                    rotate_left
                    · intro w_
                      go_simp
                      try with_reducible rfl
                    refine wpAnyIn_ready (rs := [7]) (by kernel_rfl) (by simp) ?_
                    refine AllReadyIn.cons rfl (fun K hK => ?_) ?_
                    · skip
                      go_simp
                      refine hK _ _ ?_
                      clear hK K
                      refine wpAnyIn_ready (rs := [8]) (by kernel_rfl) (by simp) ?_
                      refine AllReadyIn.cons rfl (fun K hK => ?_) ?_
                      · skip
                        go_simp
                        refine hK _ _ ?_
                        clear hK K
                        refine wpAnyIn_ready (rs := [9]) (by kernel_rfl) (by simp) ?_
                        refine AllReadyIn.cons rfl (fun K hK => ?_) ?_
                        · skip
                          refine stepIn_appI_ (by rfl) (.tmp 88) (.tmp 96) (by rfl) w.heap.size (.slice A0 n0 d0) L2 (by rfl) (H6.out.drew.alloc (.cells #[.b r0, .i r1, .b r2, .u r3, .i r4, .i r5, .b r6, .u r7, .i r8] 34)) (w4_.heap.size + 1) ⟨w4_.heap.size, 0, none⟩ 1 1 [⟨r0, ⟨r1, r2, r3, r4⟩, ⟨r5, r6, r7, r8⟩⟩] (by rfl) (SlI.lit1_ (Blk.new w4_.drew _ _) (Nat.lt_succ_self _)) (by omega) (Nat.le_trans h9s (by simp)) ?_
                          intro v3 w3 O3 hg3 hat3
                          obtain ⟨A3, n3, d3, rfl⟩ := O3.form_
                          refine hK _ _ ?_
                          clear hK K
                          have FIN0 := OvI.app (f := ⟨f0, f1, f2, f3⟩) (B := W0.heap.size) (n₁ := W0.heap.size) h9 h1 h2 h3 h4 h5 H6.out H7.out h8 (bl_alloc (bl_drew (Below.refl _ _)) _) O3 hg3 hat3 l5
                          have k3 := (h5.drew.alloc (.cells #[.b r0, .i r1, .b r2, .u r3, .i r4, .i r5, .b r6, .u r7, .i r8] 34)).grown hg3 (by intro e; obtain ⟨cur, hc⟩ := (H6.out.drew.alloc (.cells #[.b r0, .i r1, .b r2, .u r3, .i r4, .i r5, .b r6, .u r7, .i r8] 34)).cells_ e.symm; exact blk_ne hc (h5.drew.alloc (.cells #[.b r0, .i r1, .b r2, .u r3, .i r4, .i r5, .b r6, .u r7, .i r8] 34)) (by decide) rfl)
                          clear k5 kf5
                          obtain ⟨k5, kf5⟩ := k3.c1_
                          refine wpAnyIn_ready (rs := [10]) (by kernel_rfl) (by simp) ?_
                          refine AllReadyIn.cons rfl (fun K hK => ?_) ?_
                          · skip
                            go_simp
                            refine hK _ _ ?_
                            clear hK K
                            refine wpAnyIn_done (by kernel_rfl) ?_ _
                            have bP5 := FIN0.2.2.2.2 P _ (by omega) bP
                            obtain ⟨t0, t1, t2, t3, t4, t5, t6, t7, t8, t9, t10, t11, t12⟩ := bP5.c13
                            have FI := FIN0.1
                            obtain ⟨v5, j1, j2, j3, j4, j5, j6, j7, j8, j9⟩ := FI
                            have FIN1 := Lib.hid FIN0
                            clear FIN0 k5 kf5 j1 j2 j3 j4 j5 j6 j7 j9 e0 e1 e2 e3 e4 e5 e6 e7 e8 s13 O3 hg3 hat3 k3 bP5
                            generalize w3.setCell ⟨g5, 0, none⟩ (.slice A3 n3 d3) = w5 at FIN1 j8 t0 t1 t2 t3 t4 t5 t6 t7 t8 t9 t10 t11 t12 ⊢
                            gi_wp2_with (refine wpListIn_storeM rfl 32 (.tmp 6) (.tmp 99) rfl W5.heap.size _ #[.i u0, .b u1, .u u2, .i u3] j8 rfl rfl (by kernel_rfl) rfl (by simp [Value.oneCell']) ?_; intro W9 B9 P9)
                            have FIN := FIN1.out.1.put6 (n₁ := W0.heap.size) (B := W0.heap.size) (u := ⟨u0, u1, u2, u3⟩) P9 B9 hwl
                            have STP := (HS.out.trans FIN1.out.2).trans FIN.2
                            refine ⟨by first | exact STP.1 | (rw [← hsz]; exact STP.1), by first | exact STP.2 | (rw [← hsz]; exact STP.2), ?_⟩
                            show OvI _ _ _ _ _ _ _ _ _ _
                            rw [HF.out, Hsn.out]
                            rw [if_pos (show 0 < j + 1 ∧ c1 < 0 ∧ c2 < 0 ∧ c3 < 0 from ⟨Nat.succ_pos _, g1, g2, g3⟩), Hsl.out]
                            exact FIN.1
                          exact AllReadyIn.nil
                        exact AllReadyIn.nil
                      exact AllReadyIn.nil
                    exact AllReadyIn.nil
                  exact AllReadyIn.nil
                refine AllReadyIn.cons rfl (fun K hK => ?_) ?_
                · skip
                  go_simp
                  refine hK _ _ ?_
                  clear hK K
                  refine wpAnyIn_take (i := 5) (v := ?_) rfl rfl (by kernel_rfl) (by kernel_rfl) (by kernel_rfl) (fun _ _ _ h => h) ⟨Or.inl ⟨by rfl, ?_⟩, fun _ => rfl⟩ ?_
                  rotate_left
                  · intro w_
                    go_simp
                    try with_reducible rfl
                  refine wpAnyIn_take (i := 6) (v := ?_) rfl rfl (by kernel_rfl) (by kernel_rfl) (by kernel_rfl) (fun _ _ _ h => h) ⟨Or.inl ⟨by rfl, ?_⟩, fun _ => rfl⟩ ?_
                  rotate_left
                  · intro w_
                    go_simp
                    try with_reducible rfl
                  refine wpAnyIn_ready (rs := [0, 7]) (by kernel_rfl) (by simp) ?_
                  refine AllReadyIn.cons rfl (fun K hK => ?_) ?_
                  · skip
                    go_simp
                    refine hK _ _ ?_
                    clear hK K
                    refine wpAnyIn_ready (rs := [7]) (by kernel_rfl) (by simp) ?_
                    refine AllReadyIn.cons rfl (fun K hK => ?_) ?_
                    · skip
                      go_simp
                      refine hK _ _ ?_
                      clear hK K
                      refine wpAnyIn_ready (rs := [8]) (by kernel_rfl) (by simp) ?_
                      refine AllReadyIn.cons rfl (fun K hK => ?_) ?_
                      · skip
                        go_simp
                        refine hK _ _ ?_
                        clear hK K
                        refine wpAnyIn_ready (rs := [9]) (by kernel_rfl) (by simp) ?_
                        refine AllReadyIn.cons rfl (fun K hK => ?_) ?_
                        · skip
                          refine stepIn_appI_ (by rfl) (.tmp 88) (.tmp 96) (by rfl) w.heap.size (.slice A0 n0 d0) L2 (by rfl) (H6.out.drew.alloc (.cells #[.b r0, .i r1, .b r2, .u r3, .i r4, .i r5, .b r6, .u r7, .i r8] 34)) (w4_.heap.size + 1) ⟨w4_.heap.size, 0, none⟩ 1 1 [⟨r0, ⟨r1, r2, r3, r4⟩, ⟨r5, r6, r7, r8⟩⟩] (by rfl) (SlI.lit1_ (Blk.new w4_.drew _ _) (Nat.lt_succ_self _)) (by omega) (Nat.le_trans h9s (by simp)) ?_
                          intro v3 w3 O3 hg3 hat3
                          obtain ⟨A3, n3, d3, rfl⟩ := O3.form_
                          refine hK _ _ ?_
                          clear hK K
                          have FIN0 := OvI.app (f := ⟨f0, f1, f2, f3⟩) (B := W0.heap.size) (n₁ := W0.heap.size) h9 h1 h2 h3 h4 h5 H6.out H7.out h8 (bl_alloc (bl_drew (Below.refl _ _)) _) O3 hg3 hat3 l5
                          have k3 := (h5.drew.alloc (.cells #[.b r0, .i r1, .b r2, .u r3, .i r4, .i r5, .b r6, .u r7, .i r8] 34)).grown hg3 (by intro e; obtain ⟨cur, hc⟩ := (H6.out.drew.alloc (.cells #[.b r0, .i r1, .b r2, .u r3, .i r4, .i r5, .b r6, .u r7, .i r8] 34)).cells_ e.symm; exact blk_ne hc (h5.drew.alloc (.cells #[.b r0, .i r1, .b r2, .u r3, .i r4, .i r5, .b r6, .u r7, .i r8] 34)) (by decide) rfl)
                          clear k5 kf5
                          obtain ⟨k5, kf5⟩ := k3.c1_
                          refine wpAnyIn_ready (rs := [10]) (by kernel_rfl) (by simp) ?_
                          refine AllReadyIn.cons rfl (fun K hK => ?_) ?_
                          · skip
                            go_simp
                            refine hK _ _ ?_
                            clear hK K
                            refine wpAnyIn_done (by kernel_rfl) ?_ _
                            have bP5 := FIN0.2.2.2.2 P _ (by omega) bP
                            obtain ⟨t0, t1, t2, t3, t4, t5, t6, t7, t8, t9, t10, t11, t12⟩ := bP5.c13
                            have FI := FIN0.1
                            obtain ⟨v5, j1, j2, j3, j4, j5, j6, j7, j8, j9⟩ := FI
                            have FIN1 := Lib.hid FIN0
                            clear FIN0 k5 kf5 j1 j2 j3 j4 j5 j6 j7 j9 e0 e1 e2 e3 e4 e5 e6 e7 e8 s13 O3 hg3 hat3 k3 bP5
                            generalize w3.setCell ⟨g5, 0, none⟩ (.slice A3 n3 d3) = w5 at FIN1 j8 t0 t1 t2 t3 t4 t5 t6 t7 t8 t9 t10 t11 t12 ⊢
                            gi_wp2_with (refine wpListIn_storeM rfl 32 (.tmp 6) (.tmp 99) rfl W5.heap.size _ #[.i u0, .b u1, .u u2, .i u3] j8 rfl rfl (by kernel_rfl) rfl (by simp [Value.oneCell']) ?_; intro W9 B9 P9)
                            have FIN := FIN1.out.1.put6 (n₁ := W0.heap.size) (B := W0.heap.size) (u := ⟨u0, u1, u2, u3⟩) P9 B9 hwl
                            have STP := (HS.out.trans FIN1.out.2).trans FIN.2
                            refine ⟨by first | exact STP.1 | (rw [← hsz]; exact STP.1), by first | exact STP.2 | (rw [← hsz]; exact STP.2), ?_⟩
                            show OvI _ _ _ _ _ _ _ _ _ _
                            rw [HF.out, Hsn.out]
                            rw [if_pos (show 0 < j + 1 ∧ c1 < 0 ∧ c2 < 0 ∧ c3 < 0 from ⟨Nat.succ_pos _, g1, g2, g3⟩), Hsl.out]
                            exact FIN.1
                          exact AllReadyIn.nil
                        exact AllReadyIn.nil
                      exact AllReadyIn.nil
                    exact AllReadyIn.nil
                  refine AllReadyIn.cons rfl (fun K hK => ?_) ?_
                  · skip
                    go_simp
                    refine hK _ _ ?_
                    clear hK K
                    refine wpAnyIn_ready (rs := [0, 8]) (by kernel_rfl) (by simp) ?_
                    refine AllReadyIn.cons rfl (fun K hK => ?_) ?_
                    · skip
                      go_simp
                      refine hK _ _ ?_
                      clear hK K
                      refine wpAnyIn_ready (rs := [8]) (by kernel_rfl) (by simp) ?_
                      refine AllReadyIn.cons rfl (fun K hK => ?_) ?_
                      · skip
                        go_simp
                        refine hK _ _ ?_
                        clear hK K
                        refine wpAnyIn_ready (rs := [9]) (by kernel_rfl) (by simp) ?_
                        refine AllReadyIn.cons rfl (fun K hK => ?_) ?_
                        · skip
                          refine stepIn_appI_ (by rfl) (.tmp 88) (.tmp 96) (by rfl) w.heap.size (.slice A0 n0 d0) L2 (by rfl) (H6.out.drew.alloc (.cells #[.b r0, .i r1, .b r2, .u r3, .i r4, .i r5, .b r6, .u r7, .i r8] 34)) (w4_.heap.size + 1) ⟨w4_.heap.size, 0, none⟩ 1 1 [⟨r0, ⟨r1, r2, r3, r4⟩, ⟨r5, r6, r7, r8⟩⟩] (by rfl) (SlI.lit1_ (Blk.new w4_.drew _ _) (Nat.lt_succ_self _)) (by omega) (Nat.le_trans h9s (by simp)) ?_
                          intro v3 w3 O3 hg3 hat3
                          obtain ⟨A3, n3, d3, rfl⟩ := O3.form_
                          refine hK _ _ ?_
                          clear hK K
                          have FIN0 := OvI.app (f := ⟨f0, f1, f2, f3⟩) (B := W0.heap.size) (n₁ := W0.heap.size) h9 h1 h2 h3 h4 h5 H6.out H7.out h8 (bl_alloc (bl_drew (Below.refl _ _)) _) O3 hg3 hat3 l5
                          have k3 := (h5.drew.alloc (.cells #[.b r0, .i r1, .b r2, .u r3, .i r4, .i r5, .b r6, .u r7, .i r8] 34)).grown hg3 (by intro e; obtain ⟨cur, hc⟩ := (H6.out.drew.alloc (.cells #[.b r0, .i r1, .b r2, .u r3, .i r4, .i r5, .b r6, .u r7, .i r8] 34)).cells_ e.symm; exact blk_ne hc (h5.drew.alloc (.cells #[.b r0, .i r1, .b r2, .u r3, .i r4, .i r5, .b r6, .u r7, .i r8] 34)) (by decide) rfl)
                          clear k5 kf5
                          obtain ⟨k5, kf5⟩ := k3.c1_
                          refine wpAnyIn_ready (rs := [10]) (by kernel_rfl) (by simp) ?_
                          refine AllReadyIn.cons rfl (fun K hK => ?_) ?_
                          · skip
                            go_simp
                            refine hK _ _ ?_
                            clear hK K
                            refine wpAnyIn_done (by kernel_rfl) ?_ _
                            have bP5 := FIN0.2.2.2.2 P _ (by omega) bP
                            obtain ⟨t0, t1, t2, t3, t4, t5, t6, t7, t8, t9, t10, t11, t12⟩ := bP5.c13
                            have FI := FIN0.1
                            obtain ⟨v5, j1, j2, j3, j4, j5, j6, j7, j8, j9⟩ := FI
                            have FIN1 := Lib.hid FIN0
                            clear FIN0 k5 kf5 j1 j2 j3 j4 j5 j6 j7 j9 e0 e1 e2 e3 e4 e5 e6 e7 e8 s13 O3 hg3 hat3 k3 bP5
                            generalize w3.setCell ⟨g5, 0, none⟩ (.slice A3 n3 d3) = w5 at FIN1 j8 t0 t1 t2 t3 t4 t5 t6 t7 t8 t9 t10 t11 t12 ⊢
                            gi_wp2_with (refine wpListIn_storeM rfl 32 (.tmp 6) (.tmp 99) rfl W5.heap.size _ #[.i u0, .b u1, .u u2, .i u3] j8 rfl rfl (by kernel_rfl) rfl (by simp [Value.oneCell']) ?_; intro W9 B9 P9)
                            have FIN := FIN1.out.1.put6 (n₁ := W0.heap.size) (B := W0.heap.size) (u := ⟨u0, u1, u2, u3⟩) P9 B9 hwl
                            have STP := (HS.out.trans FIN1.out.2).trans FIN.2
                            refine ⟨by first | exact STP.1 | (rw [← hsz]; exact STP.1), by first | exact STP.2 | (rw [← hsz]; exact STP.2), ?_⟩
                            show OvI _ _ _ _ _ _ _ _ _ _
                            rw [HF.out, Hsn.out]
                            rw [if_pos (show 0 < j + 1 ∧ c1 < 0 ∧ c2 < 0 ∧ c3 < 0 from ⟨Nat.succ_pos _, g1, g2, g3⟩), Hsl.out]
                            exact FIN.1
                          exact AllReadyIn.nil
                        exact AllReadyIn.nil
                      exact AllReadyIn.nil
                    refine AllReadyIn.cons rfl (fun K hK => ?_) ?_
                    · skip
                      go_simp
                      refine hK _ _ ?_
                      clear hK K
                      refine wpAnyIn_ready (rs := [0]) (by kernel_rfl) (by simp) ?_
                      refine AllReadyIn.cons rfl (fun K hK => ?_) ?_
                      · skip
                        go_simp
                        refine hK _ _ ?_
                        clear hK K
                        refine wpAnyIn_ready (rs := [9]) (by kernel_rfl) (by simp) ?_
                        refine AllReadyIn.cons rfl (fun K hK => ?_) ?_
                        · skip
                          refine stepIn_appI_ (by rfl) (.tmp 88) (.tmp 96) (by rfl) w.heap.size (.slice A0 n0 d0) L2 (by rfl) (H6.out.drew.alloc (.cells #[.b r0, .i r1, .b r2, .u r3, .i r4, .i r5, .b r6, .u r7, .i r8] 34)) (w4_.heap.size + 1) ⟨w4_.heap.size, 0, none⟩ 1 1 [⟨r0, ⟨r1, r2, r3, r4⟩, ⟨r5, r6, r7, r8⟩⟩] (by rfl) (SlI.lit1_ (Blk.new w4_.drew _ _) (Nat.lt_succ_self _)) (by omega) (Nat.le_trans h9s (by simp)) ?_
                          intro v3 w3 O3 hg3 hat3
                          obtain ⟨A3, n3, d3, rfl⟩ := O3.form_
                          refine hK _ _ ?_
                          clear hK K
                          have FIN0 := OvI.app (f := ⟨f0, f1, f2, f3⟩) (B := W0.heap.size) (n₁ := W0.heap.size) h9 h1 h2 h3 h4 h5 H6.out H7.out h8 (bl_alloc (bl_drew (Below.refl _ _)) _) O3 hg3 hat3 l5
                          have k3 := (h5.drew.alloc (.cells #[.b r0, .i r1, .b r2, .u r3, .i r4, .i r5, .b r6, .u r7, .i r8] 34)).grown hg3 (by intro e; obtain ⟨cur, hc⟩ := (H6.out.drew.alloc (.cells #[.b r0, .i r1, .b r2, .u r3, .i r4, .i r5, .b r6, .u r7, .i r8] 34)).cells_ e.symm; exact blk_ne hc (h5.drew.alloc (.cells #[.b r0, .i r1, .b r2, .u r3, .i r4, .i r5, .b r6, .u r7, .i r8] 34)) (by decide) rfl)
                          clear k5 kf5
                          obtain ⟨k5, kf5⟩ := k3.c1_
                          refine wpAnyIn_ready (rs := [10]) (by kernel_rfl) (by simp) ?_
                          refine AllReadyIn.cons rfl (fun K hK => ?_) ?_
                          · skip
                            go_simp
                            refine hK _ _ ?_
                            clear hK K
                            refine wpAnyIn_done (by kernel_rfl) ?_ _
                            have bP5 := FIN0.2.2.2.2 P _ (by omega) bP
                            obtain ⟨t0, t1, t2, t3, t4, t5, t6, t7, t8, t9, t10, t11, t12⟩ := bP5.c13
                            have FI := FIN0.1
                            obtain ⟨v5, j1, j2, j3, j4, j5, j6, j7, j8, j9⟩ := FI
                            have FIN1 := Lib.hid FIN0
                            clear FIN0 k5 kf5 j1 j2 j3 j4 j5 j6 j7 j9 e0 e1 e2 e3 e4 e5 e6 e7 e8 s13 O3 hg3 hat3 k3 bP5
                            generalize w3.setCell ⟨g5, 0, none⟩ (.slice A3 n3 d3) = w5 at FIN1 j8 t0 t1 t2 t3 t4 t5 t6 t7 t8 t9 t10 t11 t12 ⊢
                            gi_wp2_with (refine wpListIn_storeM rfl 32 (.tmp 6) (.tmp 99) rfl W5.heap.size _ #[.i u0, .b u1, .u u2, .i u3] j8 rfl rfl (by kernel_rfl) rfl (by simp [Value.oneCell']) ?_; intro W9 B9 P9)
                            have FIN := FIN1.out.1.put6 (n₁ := W0.heap.size) (B := W0.heap.size) (u := ⟨u0, u1, u2, u3⟩) P9 B9 hwl
                            have STP := (HS.out.trans FIN1.out.2).trans FIN.2
                            refine ⟨by first | exact STP.1 | (rw [← hsz]; exact STP.1), by first | exact STP.2 | (rw [← hsz]; exact STP.2), ?_⟩
                            show OvI _ _ _ _ _ _ _ _ _ _
                            rw [HF.out, Hsn.out]
                            rw [if_pos (show 0 < j + 1 ∧ c1 < 0 ∧ c2 < 0 ∧ c3 < 0 from ⟨Nat.succ_pos _, g1, g2, g3⟩), Hsl.out]
                            exact FIN.1
                          exact AllReadyIn.nil
                        exact AllReadyIn.nil
                      exact AllReadyIn.nil
                    exact AllReadyIn.nil
                  exact AllReadyIn.nil
                exact AllReadyIn.nil
              · gi_wp2_with (first
                  | (refine ⟨trivial, ?_⟩; gi_at_call 28; (with_reducible refine (CallsIn.inRound l (callsIn_wide.2 (HC1.out _))).mono ?_); rintro e w2 ⟨rfl, hb⟩; replace h1 := h1.call hb; replace h2 := h2.call hb; replace h3 := h3.call hb; replace h4 := h4.call hb; replace h5 := h5.call hb; replace H6 := Lib.hid (H6.out.call hb); replace h8 := h8.call hb; replace h9 := bl_trans h9 hb; replace bP := bP.call hb; replace HS := Lib.hid (HS.out.trans (Stp.call hb h9s hNW)); replace h9s := h9.size; replace hNW := h4.lt; clear hb t0 t1 t2 t3 t4 t5 t6 t7 t8 t9 t10 t11 t12 q0 q1 q2 q3 q4 q5 q6 q7 q8 m0 m1 m2 m3; obtain ⟨t0, t1, t2, t3, t4, t5, t6, t7, t8, t9, t10, t11, t12⟩ := bP.c13; obtain ⟨⟨q0, q1, q2, q3, q4, q5, q6, q7, q8⟩, _⟩ := h2.c9; obtain ⟨⟨m0, m1, m2, m3⟩, _⟩ := h8.c4)
                  | (refine ⟨trivial, ?_⟩; gi_at_call 28; (with_reducible refine (CallsIn.inRound l (callsIn_wide.2 (HC2.out _))).mono ?_); rintro e w3_ ⟨rfl, hb⟩; replace h1 := h1.call hb; replace h2 := h2.call hb; replace h3 := h3.call hb; replace h4 := h4.call hb; replace h5 := h5.call hb; replace H6 := Lib.hid (H6.out.call hb); replace h8 := h8.call hb; replace h9 := bl_trans h9 hb; replace bP := bP.call hb; replace HS := Lib.hid (HS.out.trans (Stp.call hb h9s hNW)); replace h9s := h9.size; replace hNW := h4.lt; clear hb t0 t1 t2 t3 t4 t5 t6 t7 t8 t9 t10 t11 t12 q0 q1 q2 q3 q4 q5 q6 q7 q8 m0 m1 m2 m3; obtain ⟨t0, t1, t2, t3, t4, t5, t6, t7, t8, t9, t10, t11, t12⟩ := bP.c13; obtain ⟨⟨q0, q1, q2, q3, q4, q5, q6, q7, q8⟩, _⟩ := h2.c9; obtain ⟨⟨m0, m1, m2, m3⟩, _⟩ := h8.c4)
                  | (refine ⟨trivial, ?_⟩; gi_at_call 28; (with_reducible refine (CallsIn.inRound l (callsIn_wide.2 (HC3.out _))).mono ?_); rintro e w4_ ⟨rfl, hb⟩; replace h1 := h1.call hb; replace h2 := h2.call hb; replace h3 := h3.call hb; replace h4 := h4.call hb; replace h5 := h5.call hb; replace H6 := Lib.hid (H6.out.call hb); replace h8 := h8.call hb; replace h9 := bl_trans h9 hb; replace bP := bP.call hb; replace HS := Lib.hid (HS.out.trans (Stp.call hb h9s hNW)); replace h9s := h9.size; replace hNW := h4.lt; clear hb t0 t1 t2 t3 t4 t5 t6 t7 t8 t9 t10 t11 t12 q0 q1 q2 q3 q4 q5 q6 q7 q8 m0 m1 m2 m3; obtain ⟨t0, t1, t2, t3, t4, t5, t6, t7, t8, t9, t10, t11, t12⟩ := bP.c13; obtain ⟨⟨q0, q1, q2, q3, q4, q5, q6, q7, q8⟩, _⟩ := h2.c9; obtain ⟨⟨m0, m1, m2, m3⟩, _⟩ := h8.c4)
                  | (refine wpListIn_storeM rfl 32 (.tmp 6) (.tmp 99) rfl W5.heap.size _ #[.i u0, .b u1, .u u2, .i u3] h8 rfl rfl (by kernel_rfl) rfl (by simp [Value.oneCell']) ?_; intro W9 B9 P9)
                  | refine ⟨trivial, ?_⟩)
                have FIN := (OvI.from5 (f := ⟨f0, f1, f2, f3⟩) h1 h2 h3 h4 h5 H6.out H7.out h8 h9).put6 (n₁ := W0.heap.size) (B := W0.heap.size) (u := ⟨u0, u1, u2, u3⟩) P9 B9 hwl
                have STP := HS.out.trans FIN.2
                refine ⟨by first | exact STP.1 | (rw [← hsz]; exact STP.1), by first | exact STP.2 | (rw [← hsz]; exact STP.2), ?_⟩
                show OvI _ _ _ _ _ _ _ _ _ _
                rw [HF.out, Hsn.out]
                rw [if_neg (show ¬ (0 < k ∧ c1 < 0 ∧ c2 < 0 ∧ c3 < 0) by omega), List.append_nil]
                exact FIN.1
            · gi_wp2_with (first
                | (refine ⟨trivial, ?_⟩; gi_at_call 28; (with_reducible refine (CallsIn.inRound l (callsIn_wide.2 (HC1.out _))).mono ?_); rintro e w2 ⟨rfl, hb⟩; replace h1 := h1.call hb; replace h2 := h2.call hb; replace h3 := h3.call hb; replace h4 := h4.call hb; replace h5 := h5.call hb; replace H6 := Lib.hid (H6.out.call hb); replace h8 := h8.call hb; replace h9 := bl_trans h9 hb; replace bP := bP.call hb; replace HS := Lib.hid (HS.out.trans (Stp.call hb h9s hNW)); replace h9s := h9.size; replace hNW := h4.lt; clear hb t0 t1 t2 t3 t4 t5 t6 t7 t8 t9 t10 t11 t12 q0 q1 q2 q3 q4 q5 q6 q7 q8 m0 m1 m2 m3; obtain ⟨t0, t1, t2, t3, t4, t5, t6, t7, t8, t9, t10, t11, t12⟩ := bP.c13; obtain ⟨⟨q0, q1, q2, q3, q4, q5, q6, q7, q8⟩, _⟩ := h2.c9; obtain ⟨⟨m0, m1, m2, m3⟩, _⟩ := h8.c4)
                | (refine ⟨trivial, ?_⟩; gi_at_call 28; (with_reducible refine (CallsIn.inRound l (callsIn_wide.2 (HC2.out _))).mono ?_); rintro e w3_ ⟨rfl, hb⟩; replace h1 := h1.call hb; replace h2 := h2.call hb; replace h3 := h3.call hb; replace h4 := h4.call hb; replace h5 := h5.call hb; replace H6 := Lib.hid (H6.out.call hb); replace h8 := h8.call hb; replace h9 := bl_trans h9 hb; replace bP := bP.call hb; replace HS := Lib.hid (HS.out.trans (Stp.call hb h9s hNW)); replace h9s := h9.size; replace hNW := h4.lt; clear hb t0 t1 t2 t3 t4 t5 t6 t7 t8 t9 t10 t11 t12 q0 q1 q2 q3 q4 q5 q6 q7 q8 m0 m1 m2 m3; obtain ⟨t0, t1, t2, t3, t4, t5, t6, t7, t8, t9, t10, t11, t12⟩ := bP.c13; obtain ⟨⟨q0, q1, q2, q3, q4, q5, q6, q7, q8⟩, _⟩ := h2.c9; obtain ⟨⟨m0, m1, m2, m3⟩, _⟩ := h8.c4)
                | (refine wpListIn_storeM rfl 32 (.tmp 6) (.tmp 99) rfl W5.heap.size _ #[.i u0, .b u1, .u u2, .i u3] h8 rfl rfl (by kernel_rfl) rfl (by simp [Value.oneCell']) ?_; intro W9 B9 P9)
                | refine ⟨trivial, ?_⟩)
              have FIN := (OvI.from5 (f := ⟨f0, f1, f2, f3⟩) h1 h2 h3 h4 h5 H6.out H7.out h8 h9).put6 (n₁ := W0.heap.size) (B := W0.heap.size) (u := ⟨u0, u1, u2, u3⟩) P9 B9 hwl
              have STP := HS.out.trans FIN.2
              refine ⟨by first | exact STP.1 | (rw [← hsz]; exact STP.1), by first | exact STP.2 | (rw [← hsz]; exact STP.2), ?_⟩
              show OvI _ _ _ _ _ _ _ _ _ _
              rw [HF.out, Hsn.out]
              rw [if_neg (show ¬ (0 < k ∧ c1 < 0 ∧ c2 < 0 ∧ c3 < 0) by omega), List.append_nil]
              exact FIN.1
          · gi_wp2_with (first
              | (refine ⟨trivial, ?_⟩; gi_at_call 28; (with_reducible refine (CallsIn.inRound l (callsIn_wide.2 (HC1.out _))).mono ?_); rintro e w2 ⟨rfl, hb⟩; replace h1 := h1.call hb; replace h2 := h2.call hb; replace h3 := h3.call hb; replace h4 := h4.call hb; replace h5 := h5.call hb; replace H6 := Lib.hid (H6.out.call hb); replace h8 := h8.call hb; replace h9 := bl_trans h9 hb; replace bP := bP.call hb; replace HS := Lib.hid (HS.out.trans (Stp.call hb h9s hNW)); replace h9s := h9.size; replace hNW := h4.lt; clear hb t0 t1 t2 t3 t4 t5 t6 t7 t8 t9 t10 t11 t12 q0 q1 q2 q3 q4 q5 q6 q7 q8 m0 m1 m2 m3; obtain ⟨t0, t1, t2, t3, t4, t5, t6, t7, t8, t9, t10, t11, t12⟩ := bP.c13; obtain ⟨⟨q0, q1, q2, q3, q4, q5, q6, q7, q8⟩, _⟩ := h2.c9; obtain ⟨⟨m0, m1, m2, m3⟩, _⟩ := h8.c4)
              | (refine wpListIn_storeM rfl 32 (.tmp 6) (.tmp 99) rfl W5.heap.size _ #[.i u0, .b u1, .u u2, .i u3] h8 rfl rfl (by kernel_rfl) rfl (by simp [Value.oneCell']) ?_; intro W9 B9 P9)
              | refine ⟨trivial, ?_⟩)
            have FIN := (OvI.from5 (f := ⟨f0, f1, f2, f3⟩) h1 h2 h3 h4 h5 H6.out H7.out h8 h9).put6 (n₁ := W0.heap.size) (B := W0.heap.size) (u := ⟨u0, u1, u2, u3⟩) P9 B9 hwl
            have STP := HS.out.trans FIN.2
            refine ⟨by first | exact STP.1 | (rw [← hsz]; exact STP.1), by first | exact STP.2 | (rw [← hsz]; exact STP.2), ?_⟩
            show OvI _ _ _ _ _ _ _ _ _ _
            rw [HF.out, Hsn.out]
            rw [if_neg (show ¬ (0 < k ∧ c1 < 0 ∧ c2 < 0 ∧ c3 < 0) by omega), List.append_nil]
            exact FIN.1
    case done =>
      rintro D zs W hD rfl hI hK
      obtain ⟨vv, h1, h2, h3, h4, h5, h6, h7, h8, h9⟩ := hI
      have hlen2 := overF_length ⟨false, ⟨x1, x2, x3, x4⟩, ⟨x5, x6, x7, x8⟩⟩ xs (gatesL ⟨s0, s1, s2, s3⟩ ⟨i0, ⟨i1, i2, i3, i4⟩, ⟨i5, i6, i7, i8⟩⟩ xs (n + 1)) ([⟨p0, ⟨p1, p2, p3, p4⟩, ⟨p5, p6, p7, p8⟩⟩, ⟨q0, ⟨q1, q2, q3, q4⟩, ⟨q5, q6, q7, q8⟩⟩], ⟨s0, s1, s2, s3⟩)
      rw [gatesL_length] at hlen2
      simp only [List.length_cons, List.length_nil] at hlen2
      obtain ⟨LL, hLL⟩ : ∃ LL, LL = (overF ⟨false, ⟨x1, x2, x3, x4⟩, ⟨x5, x6, x7, x8⟩⟩ xs ([⟨p0, ⟨p1, p2, p3, p4⟩, ⟨p5, p6, p7, p8⟩⟩, ⟨q0, ⟨q1, q2, q3, q4⟩, ⟨q5, q6, q7, q8⟩⟩], ⟨s0, s1, s2, s3⟩) (gatesL ⟨s0, s1, s2, s3⟩ ⟨i0, ⟨i1, i2, i3, i4⟩, ⟨i5, i6, i7, i8⟩⟩ xs (n + 1))).1 := ⟨_, rfl⟩
      rw [← hLL] at h6 hlen2
      obtain ⟨A2, cc, rfl, hsl⟩ := h6.sl
      generalize hN2 : LL.length = N2 at hsl hlen2 h5 h6 h7
      have HH := Lib.hid (hullI_calls A2 N2 cc LL W hsl (by omega))
      obtain ⟨k5, _⟩ := h5.c1_
      have hDl := (Array.getElem?_eq_some_iff.1 hK).1
      have HK := Lib.hid hK
      have HL := Lib.hid hLL
      clear hK hLL hN2 hsl
      go_wp2_with (first
        | (go_at_call 93; refine HH.out.mono ?_; rintro e w10 ⟨rfl, hb⟩; have r10 := h3.call hb; have HB10 := bl_trans h9 hb)
        | (refine wpList_stG rfl 34 (.tmp 4) (.tmp 101) rfl (w.heap.size + 2) _ _ r10 rfl rfl (by kernel_rfl) rfl (by simp [Value.oneCell']) ?_; intro W11 B11 P11))
      have hKK := (P11.2.2.2.2 D (by omega)).trans ((hb.block D hDl).trans HK.out)
      refine ⟨by simp, .inl ⟨_, _, rfl, run_takeDeferred hKK, ?_⟩⟩
      exact ⟨_, over_results _ _ (w.heap.size + 2) _ _ _ _ _ _ _ _ _ rfl ((World.putObj_heap_other (by omega)).trans B11), by rw [HL.out], (P11.bel HB10 (by omega)).trans (bel_putObj _ _ (by omega))⟩
    case stop => exact fun D c' pre W hD h1 h2 => h2.elim
  · skip
    have gr3 := BR.lt
    refine two_ (i := 3) (j := 9) (Ni := some 42) (Nj := some 5) (bq 11 127) (bq 11 631) rfl rfl rfl rfl (by kernel_rfl) (by decide) (by decide) (fun K hK => ?_) (fun K hK => ?_)
    · skip
      refine goes_ Tryz.func91 (by kernel_rfl) rfl #[.agg #[.i s0, .b s1, .u s2, .i s3, .b i0, .i i1, .b i2, .u i3, .i i4, .i i5, .b i6, .u i7, .i i8, .slice A n c], .agg #[.i x1, .b x2, .u x3, .i x4]] (by first | rfl | go_simp) rfl rfl (by simp only [List.map_toArray, List.map_cons, List.map_nil] <;> rfl) ?_
      with_reducible refine (HP.out _ (hs.on HBd)).mono ?_
      rintro e w7 ⟨rfl, hb⟩
      refine ⟨_, rfl, ?_⟩
      replace BT := BT.call hb
      replace BX := BX.call hb
      replace BR := BR.call hb
      replace HBd := bl_trans HBd hb
      have gr7 := BR.lt
      refine hK.out _ _ ⟨BT.cell 0, BT.cell 1, BT.cell 2, BT.cell 3, BT.cell 4, BT.cell 5, BT.cell 6, BT.cell 7, BT.cell 8, BT.cell 9, BT.cell 10, BT.cell 11, BT.cell 12, BT.cell 13, BX.cell 0, BX.cell 1, BX.cell 2, BX.cell 3, BX.cell 4, BX.cell 5, BX.cell 6, BX.cell 7, BX.cell 8⟩ (fun hHeld => ?_)
      clear hK K hb
      refine norm_ (a' := ?_) ?_ ?_
      rotate_left
      · show Act.put _ (some 42) _ = _
        simp only [Act.put, pA, pB, pC]
        rfl
      refine two_ (i := 7) (j := 9) (Ni := some 46) (Nj := some 5) (bq 11 255) (bq 11 639) rfl rfl rfl rfl (by kernel_rfl) (by decide) (by decide) (fun K hK => ?_) (fun K hK => ?_)
      · skip
        refine goes_ Tryz.func91 (by kernel_rfl) rfl #[.agg #[.i s0, .b s1, .u s2, .i s3, .b i0, .i i1, .b i2, .u i3, .i i4, .i i5, .b i6, .u i7, .i i8, .slice A n c], .agg #[.i x5, .b x6, .u x7, .i x8]] (by first | rfl | go_simp) rfl rfl (by simp only [List.map_toArray, List.map_cons, List.map_nil] <;> rfl) ?_
        with_reducible refine (HQ.out _ (hs.on HBd)).mono ?_
        rintro e w8 ⟨rfl, hb⟩
        refine ⟨_, rfl, ?_⟩
        replace BT := BT.call hb
        replace BX := BX.call hb
        replace BR := BR.call hb
        replace HBd := bl_trans HBd hb
        have gr8 := BR.lt
        refine hK.out _ _ ⟨BT.cell 0, BT.cell 1, BT.cell 2, BT.cell 3, BT.cell 4, BT.cell 5, BT.cell 6, BT.cell 7, BT.cell 8, BT.cell 9, BT.cell 10, BT.cell 11, BT.cell 12, BT.cell 13, BX.cell 0, BX.cell 1, BX.cell 2, BX.cell 3, BX.cell 4, BX.cell 5, BX.cell 6, BX.cell 7, BX.cell 8⟩ (fun hHeld => ?_)
        clear hK K hb
        refine norm_ (a' := ?_) ?_ ?_
        rotate_left
        · show Act.put _ (some 46) _ = _
          simp only [Act.put, pA, pB, pC]
          rfl
        refine two_ (i := 8) (j := 9) (Ni := some 47) (Nj := some 5) (bq 11 511) (bq 11 767) rfl rfl rfl rfl (by kernel_rfl) (by decide) (by decide) (fun K hK => ?_) (fun K hK => ?_)
        · skip
          refine value_ (v := ?_) (w1 := ?_) (by rfl) rfl ?_ ?_
          rotate_left 2
          · go_simp
            first | rfl | (constructor <;> rfl)
          have BS := Blk.new w8 34 #[.b p0, .i p1, .b p2, .u p3, .i p4, .i p5, .b p6, .u p7, .i p8, .b q0, .i q1, .b q2, .u q3, .i q4, .i q5, .b q6, .u q7, .i q8]
          replace BT := BT.alloc (.cells #[.b p0, .i p1, .b p2, .u p3, .i p4, .i p5, .b p6, .u p7, .i p8, .b q0, .i q1, .b q2, .u q3, .i q4, .i q5, .b q6, .u q7, .i q8] 34)
          replace BX := BX.alloc (.cells #[.b p0, .i p1, .b p2, .u p3, .i p4, .i p5, .b p6, .u p7, .i p8, .b q0, .i q1, .b q2, .u q3, .i q4, .i q5, .b q6, .u q7, .i q8] 34)
          replace BR := BR.alloc (.cells #[.b p0, .i p1, .b p2, .u p3, .i p4, .i p5, .b p6, .u p7, .i p8, .b q0, .i q1, .b q2, .u q3, .i q4, .i q5, .b q6, .u q7, .i q8] 34)
          replace HBd := bl_alloc HBd (.cells #[.b p0, .i p1, .b p2, .u p3, .i p4, .i p5, .b p6, .u p7, .i p8, .b q0, .i q1, .b q2, .u q3, .i q4, .i q5, .b q6, .u q7, .i q8] 34)
          refine hK.out _ _ ⟨BT.cell 0, BT.cell 1, BT.cell 2, BT.cell 3, BT.cell 4, BT.cell 5, BT.cell 6, BT.cell 7, BT.cell 8, BT.cell 9, BT.cell 10, BT.cell 11, BT.cell 12, BT.cell 13, BX.cell 0, BX.cell 1, BX.cell 2, BX.cell 3, BX.cell 4, BX.cell 5, BX.cell 6, BX.cell 7, BX.cell 8⟩ (fun hHeld => ?_)
          clear hK K
          refine norm_ (a' := ?_) ?_ ?_
          rotate_left
          · show Act.put _ (some 47) _ = _
            simp only [Act.put, pA, pB, pC]
            rfl
          refine on 9 5 (bq 11 1023) (fun K hK => ?_)
          refine value_ (v := ?_) (w1 := ?_) (by rfl) rfl ?_ ?_
          rotate_left 2
          · go_simp
            first | rfl | (constructor <;> rfl)
          have BL := Blk.new1 w8 (.cells #[.b p0, .i p1, .b p2, .u p3, .i p4, .i p5, .b p6, .u p7, .i p8, .b q0, .i q1, .b q2, .u q3, .i q4, .i q5, .b q6, .u q7, .i q8] 34) 77 #[.slice none 0 0]
          replace BT := BT.alloc (.cells #[.slice none 0 0] 77)
          replace BX := BX.alloc (.cells #[.slice none 0 0] 77)
          replace BR := BR.alloc (.cells #[.slice none 0 0] 77)
          replace HBd := bl_alloc HBd (.cells #[.slice none 0 0] 77)
          replace BS := BS.alloc (.cells #[.slice none 0 0] 77)
          refine hK.out _ _ ⟨BT.cell 0, BT.cell 1, BT.cell 2, BT.cell 3, BT.cell 4, BT.cell 5, BT.cell 6, BT.cell 7, BT.cell 8, BT.cell 9, BT.cell 10, BT.cell 11, BT.cell 12, BT.cell 13, BX.cell 0, BX.cell 1, BX.cell 2, BX.cell 3, BX.cell 4, BX.cell 5, BX.cell 6, BX.cell 7, BX.cell 8⟩ (fun hHeld => ?_)
          exact norm_ (by rfl) (hJ (w8.heap.size, w8.heap.size + 1) _ ⟨BT, BX, BR, BS, BL, by dsimp only; omega, by dsimp only; omega, HBd⟩)
        · skip
          refine value_ (v := ?_) (w1 := ?_) (by rfl) rfl ?_ ?_
          rotate_left 2
          · go_simp
            first | rfl | (constructor <;> rfl)
          have BL := Blk.new w8 77 #[.slice none 0 0]
          replace BT := BT.alloc (.cells #[.slice none 0 0] 77)
          replace BX := BX.alloc (.cells #[.slice none 0 0] 77)
          replace BR := BR.alloc (.cells #[.slice none 0 0] 77)
          replace HBd := bl_alloc HBd (.cells #[.slice none 0 0] 77)
          refine hK.out _ _ ⟨BT.cell 0, BT.cell 1, BT.cell 2, BT.cell 3, BT.cell 4, BT.cell 5, BT.cell 6, BT.cell 7, BT.cell 8, BT.cell 9, BT.cell 10, BT.cell 11, BT.cell 12, BT.cell 13, BX.cell 0, BX.cell 1, BX.cell 2, BX.cell 3, BX.cell 4, BX.cell 5, BX.cell 6, BX.cell 7, BX.cell 8⟩ (fun hHeld => ?_)
          clear hK K
          refine norm_ (a' := ?_) ?_ ?_
          rotate_left
          · show Act.put _ (some 5) _ = _
            simp only [Act.put, pA, pB, pC]
            rfl
          refine on 8 47 (bq 11 1023) (fun K hK => ?_)
          refine value_ (v := ?_) (w1 := ?_) (by rfl) rfl ?_ ?_
          rotate_left 2
          · go_simp
            first | rfl | (constructor <;> rfl)
          have BS := Blk.new1 w8 (.cells #[.slice none 0 0] 77) 34 #[.b p0, .i p1, .b p2, .u p3, .i p4, .i p5, .b p6, .u p7, .i p8, .b q0, .i q1, .b q2, .u q3, .i q4, .i q5, .b q6, .u q7, .i q8]
          replace BT := BT.alloc (.cells #[.b p0, .i p1, .b p2, .u p3, .i p4, .i p5, .b p6, .u p7, .i p8, .b q0, .i q1, .b q2, .u q3, .i q4, .i q5, .b q6, .u q7, .i q8] 34)
          replace BX := BX.alloc (.cells #[.b p0, .i p1, .b p2, .u p3, .i p4, .i p5, .b p6, .u p7, .i p8, .b q0, .i q1, .b q2, .u q3, .i q4, .i q5, .b q6, .u q7, .i q8] 34)
          replace BR := BR.alloc (.cells #[.b p0, .i p1, .b p2, .u p3, .i p4, .i p5, .b p6, .u p7, .i p8, .b q0, .i q1, .b q2, .u q3, .i q4, .i q5, .b q6, .u q7, .i q8] 34)
          replace HBd := bl_alloc HBd (.cells #[.b p0, .i p1, .b p2, .u p3, .i p4, .i p5, .b p6, .u p7, .i p8, .b q0, .i q1, .b q2, .u q3, .i q4, .i q5, .b q6, .u q7, .i q8] 34)
          replace BL := BL.alloc (.cells #[.b p0, .i p1, .b p2, .u p3, .i p4, .i p5, .b p6, .u p7, .i p8, .b q0, .i q1, .b q2, .u q3, .i q4, .i q5, .b q6, .u q7, .i q8] 34)
          refine hK.out _ _ ⟨BT.cell 0, BT.cell 1, BT.cell 2, BT.cell 3, BT.cell 4, BT.cell 5, BT.cell 6, BT.cell 7, BT.cell 8, BT.cell 9, BT.cell 10, BT.cell 11, BT.cell 12, BT.cell 13, BX.cell 0, BX.cell 1, BX.cell 2, BX.cell 3, BX.cell 4, BX.cell 5, BX.cell 6, BX.cell 7, BX.cell 8⟩ (fun hHeld => ?_)
          exact norm_ (by rfl) (hJ (w8.heap.size + 1, w8.heap.size) _ ⟨BT, BX, BR, BS, BL, by dsimp only; omega, by dsimp only; omega, HBd⟩)
      · skip
        refine value_ (v := ?_) (w1 := ?_) (by rfl) rfl ?_ ?_
        rotate_left 2
        · go_simp
          first | rfl | (constructor <;> rfl)
        have BL := Blk.new w7 77 #[.slice none 0 0]
        replace BT := BT.alloc (.cells #[.slice none 0 0] 77)
        replace BX := BX.alloc (.cells #[.slice none 0 0] 77)
        replace BR := BR.alloc (.cells #[.slice none 0 0] 77)
        replace HBd := bl_alloc HBd (.cells #[.slice none 0 0] 77)
        refine hK.out _ _ ⟨BT.cell 0, BT.cell 1, BT.cell 2, BT.cell 3, BT.cell 4, BT.cell 5, BT.cell 6, BT.cell 7, BT.cell 8, BT.cell 9, BT.cell 10, BT.cell 11, BT.cell 12, BT.cell 13, BX.cell 0, BX.cell 1, BX.cell 2, BX.cell 3, BX.cell 4, BX.cell 5, BX.cell 6, BX.cell 7, BX.cell 8⟩ (fun hHeld => ?_)
        clear hK K
        refine norm_ (a' := ?_) ?_ ?_
        rotate_left
        · show Act.put _ (some 5) _ = _
          simp only [Act.put, pA, pB, pC]
          rfl
        refine on 7 46 (bq 11 767) (fun K hK => ?_)
        refine goes_ Tryz.func91 (by kernel_rfl) rfl #[.agg #[.i s0, .b s1, .u s2, .i s3, .b i0, .i i1, .b i2, .u i3, .i i4, .i i5, .b i6, .u i7, .i i8, .slice A n c], .agg #[.i x5, .b x6, .u x7, .i x8]] (by first | rfl | go_simp) rfl rfl (by simp only [List.map_toArray, List.map_cons, List.map_nil] <;> rfl) ?_
        with_reducible refine (HQ.out _ (hs.on HBd)).mono ?_
        rintro e w8 ⟨rfl, hb⟩
        refine ⟨_, rfl, ?_⟩
        replace BT := BT.call hb
        replace BX := BX.call hb
        replace BR := BR.call hb
        replace HBd := bl_trans HBd hb
        replace BL := BL.call hb
        have gr8 := BR.lt
        refine hK.out _ _ ⟨BT.cell 0, BT.cell 1, BT.cell 2, BT.cell 3, BT.cell 4, BT.cell 5, BT.cell 6, BT.cell 7, BT.cell 8, BT.cell 9, BT.cell 10, BT.cell 11, BT.cell 12, BT.cell 13, BX.cell 0, BX.cell 1, BX.cell 2, BX.cell 3, BX.cell 4, BX.cell 5, BX.cell 6, BX.cell 7, BX.cell 8⟩ (fun hHeld => ?_)
        clear hK K hb
        refine norm_ (a' := ?_) ?_ ?_
        rotate_left
        · show Act.put _ (some 46) _ = _
          simp only [Act.put, pA, pB, pC]
          rfl
        refine on 8 47 (bq 11 1023) (fun K hK => ?_)
        refine value_ (v := ?_) (w1 := ?_) (by rfl) rfl ?_ ?_
        rotate_left 2
        · go_simp
          first | rfl | (constructor <;> rfl)
        have BS := Blk.new w8 34 #[.b p0, .i p1, .b p2, .u p3, .i p4, .i p5, .b p6, .u p7, .i p8, .b q0, .i q1, .b q2, .u q3, .i q4, .i q5, .b q6, .u q7, .i q8]
        replace BT := BT.alloc (.cells #[.b p0, .i p1, .b p2, .u p3, .i p4, .i p5, .b p6, .u p7, .i p8, .b q0, .i q1, .b q2, .u q3, .i q4, .i q5, .b q6, .u q7, .i q8] 34)
        replace BX := BX.alloc (.cells #[.b p0, .i p1, .b p2, .u p3, .i p4, .i p5, .b p6, .u p7, .i p8, .b q0, .i q1, .b q2, .u q3, .i q4, .i q5, .b q6, .u q7, .i q8] 34)
        replace BR := BR.alloc (.cells #[.b p0, .i p1, .b p2, .u p3, .i p4, .i p5, .b p6, .u p7, .i p8, .b q0, .i q1, .b q2, .u q3, .i q4, .i q5, .b q6, .u q7, .i q8] 34)
        replace HBd := bl_alloc HBd (.cells #[.b p0, .i p1, .b p2, .u p3, .i p4, .i p5, .b p6, .u p7, .i p8, .b q0, .i q1, .b q2, .u q3, .i q4, .i q5, .b q6, .u q7, .i q8] 34)
        replace BL := BL.alloc (.cells #[.b p0, .i p1, .b p2, .u p3, .i p4, .i p5, .b p6, .u p7, .i p8, .b q0, .i q1, .b q2, .u q3, .i q4, .i q5, .b q6, .u q7, .i q8] 34)
        refine hK.out _ _ ⟨BT.cell 0, BT.cell 1, BT.cell 2, BT.cell 3, BT.cell 4, BT.cell 5, BT.cell 6, BT.cell 7, BT.cell 8, BT.cell 9, BT.cell 10, BT.cell 11, BT.cell 12, BT.cell 13, BX.cell 0, BX.cell 1, BX.cell 2, BX.cell 3, BX.cell 4, BX.cell 5, BX.cell 6, BX.cell 7, BX.cell 8⟩ (fun hHeld => ?_)
        exact norm_ (by rfl) (hJ (w8.heap.size, w7.heap.size) _ ⟨BT, BX, BR, BS, BL, by dsimp only; omega, by dsimp only; omega, HBd⟩)
    · skip
      refine value_ (v := ?_) (w1 := ?_) (by rfl) rfl ?_ ?_
      rotate_left 2
      · go_simp
        first | rfl | (constructor <;> rfl)
      have BL := Blk.new w3 77 #[.slice none 0 0]
      replace BT := BT.alloc (.cells #[.slice none 0 0] 77)
      replace BX := BX.alloc (.cells #[.slice none 0 0] 77)
      replace BR := BR.alloc (.cells #[.slice none 0 0] 77)
      replace HBd := bl_alloc HBd (.cells #[.slice none 0 0] 77)
      refine hK.out _ _ ⟨BT.cell 0, BT.cell 1, BT.cell 2, BT.cell 3, BT.cell 4, BT.cell 5, BT.cell 6, BT.cell 7, BT.cell 8, BT.cell 9, BT.cell 10, BT.cell 11, BT.cell 12, BT.cell 13, BX.cell 0, BX.cell 1, BX.cell 2, BX.cell 3, BX.cell 4, BX.cell 5, BX.cell 6, BX.cell 7, BX.cell 8⟩ (fun hHeld => ?_)
      clear hK K
      refine norm_ (a' := ?_) ?_ ?_
      rotate_left
      · show Act.put _ (some 5) _ = _
        simp only [Act.put, pA, pB, pC]
        rfl
      refine on 3 42 (bq 11 639) (fun K hK => ?_)
      refine goes_ Tryz.func91 (by kernel_rfl) rfl #[.agg #[.i s0, .b s1, .u s2, .i s3, .b i0, .i i1, .b i2, .u i3, .i i4, .i i5, .b i6, .u i7, .i i8, .slice A n c], .agg #[.i x1, .b x2, .u x3, .i x4]] (by first | rfl | go_simp) rfl rfl (by simp only [List.map_toArray, List.map_cons, List.map_nil] <;> rfl) ?_
      with_reducible refine (HP.out _ (hs.on HBd)).mono ?_
      rintro e w7 ⟨rfl, hb⟩
      refine ⟨_, rfl, ?_⟩
      replace BT := BT.call hb
      replace BX := BX.call hb
      replace BR := BR.call hb
      replace HBd := bl_trans HBd hb
      replace BL := BL.call hb
      refine hK.out _ _ ⟨BT.cell 0, BT.cell 1, BT.cell 2, BT.cell 3, BT.cell 4, BT.cell 5, BT.cell 6, BT.cell 7, BT.cell 8, BT.cell 9, BT.cell 10, BT.cell 11, BT.cell 12, BT.cell 13, BX.cell 0, BX.cell 1, BX.cell 2, BX.cell 3, BX.cell 4, BX.cell 5, BX.cell 6, BX.cell 7, BX.cell 8⟩ (fun hHeld => ?_)
      clear hK K hb
      refine norm_ (a' := ?_) ?_ ?_
      rotate_left
      · show Act.put _ (some 42) _ = _
        simp only [Act.put, pA, pB, pC]
        rfl
      refine on 7 46 (bq 11 767) (fun K hK => ?_)
      refine goes_ Tryz.func91 (by kernel_rfl) rfl #[.agg #[.i s0, .b s1, .u s2, .i s3, .b i0, .i i1, .b i2, .u i3, .i i4, .i i5, .b i6, .u i7, .i i8, .slice A n c], .agg #[.i x5, .b x6, .u x7, .i x8]] (by first | rfl | go_simp) rfl rfl (by simp only [List.map_toArray, List.map_cons, List.map_nil] <;> rfl) ?_
      with_reducible refine (HQ.out _ (hs.on HBd)).mono ?_
      rintro e w8 ⟨rfl, hb⟩
      refine ⟨_, rfl, ?_⟩
      replace BT := BT.call hb
      replace BX := BX.call hb
      replace BR := BR.call hb
      replace HBd := bl_trans HBd hb
      replace BL := BL.call hb
      have gr8 := BR.lt
      refine hK.out _ _ ⟨BT.cell 0, BT.cell 1, BT.cell 2, BT.cell 3, BT.cell 4, BT.cell 5, BT.cell 6, BT.cell 7, BT.cell 8, BT.cell 9, BT.cell 10, BT.cell 11, BT.cell 12, BT.cell 13, BX.cell 0, BX.cell 1, BX.cell 2, BX.cell 3, BX.cell 4, BX.cell 5, BX.cell 6, BX.cell 7, BX.cell 8⟩ (fun hHeld => ?_)
      clear hK K hb
      refine norm_ (a' := ?_) ?_ ?_
      rotate_left
      · show Act.put _ (some 46) _ = _
        simp only [Act.put, pA, pB, pC]
        rfl
      refine on 8 47 (bq 11 1023) (fun K hK => ?_)
      refine value_ (v := ?_) (w1 := ?_) (by rfl) rfl ?_ ?_
      rotate_left 2
      · go_simp
        first | rfl | (constructor <;> rfl)
      have BS := Blk.new w8 34 #[.b p0, .i p1, .b p2, .u p3, .i p4, .i p5, .b p6, .u p7, .i p8, .b q0, .i q1, .b q2, .u q3, .i q4, .i q5, .b q6, .u q7, .i q8]
      replace BT := BT.alloc (.cells #[.b p0, .i p1, .b p2, .u p3, .i p4, .i p5, .b p6, .u p7, .i p8, .b q0, .i q1, .b q2, .u q3, .i q4, .i q5, .b q6, .u q7, .i q8] 34)
      replace BX := BX.alloc (.cells #[.b p0, .i p1, .b p2, .u p3, .i p4, .i p5, .b p6, .u p7, .i p8, .b q0, .i q1, .b q2, .u q3, .i q4, .i q5, .b q6, .u q7, .i q8] 34)
      replace BR := BR.alloc (.cells #[.b p0, .i p1, .b p2, .u p3, .i p4, .i p5, .b p6, .u p7, .i p8, .b q0, .i q1, .b q2, .u q3, .i q4, .i q5, .b q6, .u q7, .i q8] 34)
      replace HBd := bl_alloc HBd (.cells #[.b p0, .i p1, .b p2, .u p3, .i p4, .i p5, .b p6, .u p7, .i p8, .b q0, .i q1, .b q2, .u q3, .i q4, .i q5, .b q6, .u q7, .i q8] 34)
      replace BL := BL.alloc (.cells #[.b p0, .i p1, .b p2, .u p3, .i p4, .i p5, .b p6, .u p7, .i p8, .b q0, .i q1, .b q2, .u q3, .i q4, .i q5, .b q6, .u q7, .i q8] 34)
      refine hK.out _ _ ⟨BT.cell 0, BT.cell 1, BT.cell 2, BT.cell 3, BT.cell 4, BT.cell 5, BT.cell 6, BT.cell 7, BT.cell 8, BT.cell 9, BT.cell 10, BT.cell 11, BT.cell 12, BT.cell 13, BX.cell 0, BX.cell 1, BX.cell 2, BX.cell 3, BX.cell 4, BX.cell 5, BX.cell 6, BX.cell 7, BX.cell 8⟩ (fun hHeld => ?_)
      exact norm_ (by rfl) (hJ (w8.heap.size, w3.heap.size) _ ⟨BT, BX, BR, BS, BL, by dsimp only; omega, by dsimp only; omega, HBd⟩)

end Go.Proofs.YteabdeohhmbclaaGreat.Wk
