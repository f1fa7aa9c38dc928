/- Walk: tube.Over, the ways that end early. -/
import Derived.Test.YteabdeohhmbclaaGreatOvAy
namespace Go.Proofs.YteabdeohhmbclaaGreat.Wk
open Go.RowKit Go.Shelf Go.Proofs.Pl Go.Proofs.YteabdeohhmbclaaGreatW.PrintLast
set_option linter.unusedSimpArgs false
set_option linter.unusedVariables false
attribute [local go_sem] Oper.semAt_some

theorem wp_calm {c : Code} {a : Act} {W : World} {K : Act → World → Prop} {Q' : Exit → Act → World → Prop} (h : c.wp Tryz.prog (Exit.then K (fun _ _ _ => False)) a W) : c.wp Tryz.prog (Exit.then K Q') a W :=
 Go.wp_mono h (fun e x v h => by
  cases e with
  | normal => exact h
  | _ => exact False.elim h)
theorem over_results (tmps : Array Value) (W : World) (R : Nat) (r0 : Bool) (r1 : Int) (r2 : Bool) (r3 r4 r5 : Int) (r6 : Bool) (r7 r8 : Int) (h4 : tmps.getD 4 undef = .pointer (some ⟨R, 0, none⟩)) (hb0 : Blk W R 34 #[.b r0, .i r1, .b r2, .u r3, .i r4, .i r5, .b r6, .u r7, .i r8]) :
  (results Tryz.f77 tmps).run Tryz.prog W = .ok (.agg #[.b r0, .i r1, .b r2, .u r3, .i r4, .i r5, .b r6, .u r7, .i r8]) W :=
 results_cell_row rfl _ _ R 34 _ (0, 0) _ h4 hb0 Tryz.underlying34 rfl (by kernel_rfl)
set_option maxRecDepth 100000 in
set_option maxHeartbeats 16000000 in
theorem over_a (s0 : Int) (s1 : Bool) (s2 s3 : Int) (i0 : Bool) (i1 : Int) (i2 : Bool) (i3 i4 i5 : Int) (i6 : Bool) (i7 i8 : Int) (A : Option Addr) (n c : Nat) (xs : List Slc) (x0 : Bool) (x1 : Int) (x2 : Bool) (x3 x4 x5 : Int) (x6 : Bool) (x7 x8 : Int) (w : World) (hs : SlT w w.heap.size A n xs) (hm : mayT ⟨⟨s0, s1, s2, s3⟩, ⟨i0, ⟨i1, i2, i3, i4⟩, ⟨i5, i6, i7, i8⟩⟩, xs⟩ = false) :
  Calls Tryz.prog 77 #[.agg #[.i s0, .b s1, .u s2, .i s3, .b i0, .i i1, .b i2, .u i3, .i i4, .i i5, .b i6, .u i7, .i i8, .slice A n c], .agg #[.b x0, .i x1, .b x2, .u x3, .i x4, .i x5, .b x6, .u x7, .i x8]] w fun e w' => e = .returned (.agg #[.b true, .i 0, .b false, .u 0, .i 0, .i 0, .b false, .u 0, .i 0]) ∧ Below w.heap.size w w' := by
 refine (callsIn_wide (n := 4)).1 ?_
 refine callsIn_of_wp_marks Tryz.func77 rfl trivial ?_ rfl
 refine wpIn_wide.2 ?_
 simp only [Tryz.ntmps77, List.size_toArray, List.length_cons, List.length_nil, Nat.reduceAdd, Nat.reduceSub, Array.replicate_succ, Array.replicate_zero, List.push_toArray, List.append_toArray, List.nil_append, List.cons_append]
 have BT := ((Blk.new w 37 #[.i s0, .b s1, .u s2, .i s3, .b i0, .i i1, .b i2, .u i3, .i i4, .i i5, .b i6, .u i7, .i i8, .slice A n c]).alloc (.cells #[.b x0, .i x1, .b x2, .u x3, .i x4, .i x5, .b x6, .u x7, .i x8] 34)).alloc (.cells #[.b false, .i 0, .b false, .u 0, .i 0, .i 0, .b false, .u 0, .i 0] 34)
 have BX := (Blk.new1 w (.cells #[.i s0, .b s1, .u s2, .i s3, .b i0, .i i1, .b i2, .u i3, .i i4, .i i5, .b i6, .u i7, .i i8, .slice A n c] 37) 34 #[.b x0, .i x1, .b x2, .u x3, .i x4, .i x5, .b x6, .u x7, .i x8]).alloc (.cells #[.b false, .i 0, .b false, .u 0, .i 0, .i 0, .b false, .u 0, .i 0] 34)
 have BR := Blk.new2 w (.cells #[.i s0, .b s1, .u s2, .i s3, .b i0, .i i1, .b i2, .u i3, .i i4, .i i5, .b i6, .u i7, .i i8, .slice A n c] 37) (.cells #[.b x0, .i x1, .b x2, .u x3, .i x4, .i x5, .b x6, .u x7, .i x8] 34) 34 #[.b false, .i 0, .b false, .u 0, .i 0, .i 0, .b false, .u 0, .i 0]
 have HBd := bl_alloc (bl_alloc (bl_alloc (Below.refl w.heap.size w) (.cells #[.i s0, .b s1, .u s2, .i s3, .b i0, .i i1, .b i2, .u i3, .i i4, .i i5, .b i6, .u i7, .i i8, .slice A n c] 37)) (.cells #[.b x0, .i x1, .b x2, .u x3, .i x4, .i x5, .b x6, .u x7, .i x8] 34)) (.cells #[.b false, .i 0, .b false, .u 0, .i 0, .i 0, .b false, .u 0, .i 0] 34)
 have HM := Lib.hid (fun W h => tmay_calls s0 s1 s2 s3 i0 i1 i2 i3 i4 i5 i6 i7 i8 A n c xs W h)
 have HA := Lib.hid (fun W => mayI_calls x0 x1 x2 x3 x4 x5 x6 x7 x8 W)
 rw [hm] at HM
 go_wp2_with (first
  | (go_at_call 14; refine (HM.out _ (hs.on HBd)).mono ?_; rintro e w1 ⟨rfl, hb⟩; replace BT := BT.call hb; replace BX := BX.call hb; replace BR := BR.call hb; replace HBd := bl_trans HBd hb; clear hb; obtain ⟨t0, t1, t2, t3, t4, t5, t6, t7, t8, t9, t10, t11, t12, t13⟩ := BT.c14; obtain ⟨⟨y0, y1, y2, y3, y4, y5, y6, y7, y8⟩, _⟩ := BX.c9)
  | (go_at_call 35; (with_reducible refine (none_lit9 _).mono ?_); rintro e w3 ⟨rfl, hb⟩; replace BT := BT.call hb; replace BX := BX.call hb; replace BR := BR.call hb; replace HBd := bl_trans HBd hb; clear hb)
  | (refine wpList_stG rfl 34 (.tmp 4) (.tmp 22) rfl (w.heap.size + 2) _ _ BR rfl rfl (by kernel_rfl) rfl (by simp [Value.oneCell']) ?_; intro W3 B3 P3))
 exact ⟨_, over_results _ _ (w.heap.size + 2) _ _ _ _ _ _ _ _ _ rfl B3, rfl, P3.bel HBd (by omega)⟩

set_option maxRecDepth 100000 in
set_option maxHeartbeats 16000000 in
theorem over_b (s0 : Int) (s1 : Bool) (s2 s3 : Int) (i0 : Bool) (i1 : Int) (i2 : Bool) (i3 i4 i5 : Int) (i6 : Bool) (i7 i8 : Int) (A : Option Addr) (n c : Nat) (xs : List Slc) (x0 : Bool) (x1 : Int) (x2 : Bool) (x3 x4 x5 : Int) (x6 : Bool) (x7 x8 : Int) (w : World) (hs : SlT w w.heap.size A n xs) (hm : mayT ⟨⟨s0, s1, s2, s3⟩, ⟨i0, ⟨i1, i2, i3, i4⟩, ⟨i5, i6, i7, i8⟩⟩, xs⟩ = true) (hx : x0 = true) :
  Calls Tryz.prog 77 #[.agg #[.i s0, .b s1, .u s2, .i s3, .b i0, .i i1, .b i2, .u i3, .i i4, .i i5, .b i6, .u i7, .i i8, .slice A n c], .agg #[.b x0, .i x1, .b x2, .u x3, .i x4, .i x5, .b x6, .u x7, .i x8]] w fun e w' => e = .returned (.agg #[.b true, .i 0, .b false, .u 0, .i 0, .i 0, .b false, .u 0, .i 0]) ∧ Below w.heap.size w w' := by
 refine (callsIn_wide (n := 4)).1 ?_
 refine callsIn_of_wp_marks Tryz.func77 rfl trivial ?_ rfl
 refine wpIn_wide.2 ?_
 simp only [Tryz.ntmps77, List.size_toArray, List.length_cons, List.length_nil, Nat.reduceAdd, Nat.reduceSub, Array.replicate_succ, Array.replicate_zero, List.push_toArray, List.append_toArray, List.nil_append, List.cons_append]
 have BT := ((Blk.new w 37 #[.i s0, .b s1, .u s2, .i s3, .b i0, .i i1, .b i2, .u i3, .i i4, .i i5, .b i6, .u i7, .i i8, .slice A n c]).alloc (.cells #[.b x0, .i x1, .b x2, .u x3, .i x4, .i x5, .b x6, .u x7, .i x8] 34)).alloc (.cells #[.b false, .i 0, .b false, .u 0, .i 0, .i 0, .b false, .u 0, .i 0] 34)
 have BX := (Blk.new1 w (.cells #[.i s0, .b s1, .u s2, .i s3, .b i0, .i i1, .b i2, .u i3, .i i4, .i i5, .b i6, .u i7, .i i8, .slice A n c] 37) 34 #[.b x0, .i x1, .b x2, .u x3, .i x4, .i x5, .b x6, .u x7, .i x8]).alloc (.cells #[.b false, .i 0, .b false, .u 0, .i 0, .i 0, .b false, .u 0, .i 0] 34)
 have BR := Blk.new2 w (.cells #[.i s0, .b s1, .u s2, .i s3, .b i0, .i i1, .b i2, .u i3, .i i4, .i i5, .b i6, .u i7, .i i8, .slice A n c] 37) (.cells #[.b x0, .i x1, .b x2, .u x3, .i x4, .i x5, .b x6, .u x7, .i x8] 34) 34 #[.b false, .i 0, .b false, .u 0, .i 0, .i 0, .b false, .u 0, .i 0]
 have HBd := bl_alloc (bl_alloc (bl_alloc (Below.refl w.heap.size w) (.cells #[.i s0, .b s1, .u s2, .i s3, .b i0, .i i1, .b i2, .u i3, .i i4, .i i5, .b i6, .u i7, .i i8, .slice A n c] 37)) (.cells #[.b x0, .i x1, .b x2, .u x3, .i x4, .i x5, .b x6, .u x7, .i x8] 34)) (.cells #[.b false, .i 0, .b false, .u 0, .i 0, .i 0, .b false, .u 0, .i 0] 34)
 have HM := Lib.hid (fun W h => tmay_calls s0 s1 s2 s3 i0 i1 i2 i3 i4 i5 i6 i7 i8 A n c xs W h)
 have HA := Lib.hid (fun W => mayI_calls x0 x1 x2 x3 x4 x5 x6 x7 x8 W)
 rw [hm] at HM
 subst hx
 go_wp2_with (first
  | (go_at_call 14; refine (HM.out _ (hs.on HBd)).mono ?_; rintro e w1 ⟨rfl, hb⟩; replace BT := BT.call hb; replace BX := BX.call hb; replace BR := BR.call hb; replace HBd := bl_trans HBd hb; clear hb; obtain ⟨t0, t1, t2, t3, t4, t5, t6, t7, t8, t9, t10, t11, t12, t13⟩ := BT.c14; obtain ⟨⟨y0, y1, y2, y3, y4, y5, y6, y7, y8⟩, _⟩ := BX.c9)
  | (go_at_call 35; (with_reducible refine (none_lit9 _).mono ?_); rintro e w3 ⟨rfl, hb⟩; replace BT := BT.call hb; replace BX := BX.call hb; replace BR := BR.call hb; replace HBd := bl_trans HBd hb; clear hb)
  | (refine wpList_stG rfl 34 (.tmp 4) (.tmp 22) rfl (w.heap.size + 2) _ _ BR rfl rfl (by kernel_rfl) rfl (by simp [Value.oneCell']) ?_; intro W3 B3 P3))
 exact ⟨_, over_results _ _ (w.heap.size + 2) _ _ _ _ _ _ _ _ _ rfl B3, rfl, P3.bel HBd (by omega)⟩

set_option maxRecDepth 100000 in
set_option maxHeartbeats 16000000 in
theorem over_c (s0 : Int) (s1 : Bool) (s2 s3 : Int) (i0 : Bool) (i1 : Int) (i2 : Bool) (i3 i4 i5 : Int) (i6 : Bool) (i7 i8 : Int) (A : Option Addr) (n c : Nat) (xs : List Slc) (x0 : Bool) (x1 : Int) (x2 : Bool) (x3 x4 x5 : Int) (x6 : Bool) (x7 x8 : Int) (w : World) (hs : SlT w w.heap.size A n xs) (hm : mayT ⟨⟨s0, s1, s2, s3⟩, ⟨i0, ⟨i1, i2, i3, i4⟩, ⟨i5, i6, i7, i8⟩⟩, xs⟩ = true) (hx : x0 = false) (hx2 : mayI ⟨x0, ⟨x1, x2, x3, x4⟩, ⟨x5, x6, x7, x8⟩⟩ = false) :
  Calls Tryz.prog 77 #[.agg #[.i s0, .b s1, .u s2, .i s3, .b i0, .i i1, .b i2, .u i3, .i i4, .i i5, .b i6, .u i7, .i i8, .slice A n c], .agg #[.b x0, .i x1, .b x2, .u x3, .i x4, .i x5, .b x6, .u x7, .i x8]] w fun e w' => e = .returned (.agg #[.b true, .i 0, .b false, .u 0, .i 0, .i 0, .b false, .u 0, .i 0]) ∧ Below w.heap.size w w' := by
 refine (callsIn_wide (n := 4)).1 ?_
 refine callsIn_of_wp_marks Tryz.func77 rfl trivial ?_ rfl
 refine wpIn_wide.2 ?_
 simp only [Tryz.ntmps77, List.size_toArray, List.length_cons, List.length_nil, Nat.reduceAdd, Nat.reduceSub, Array.replicate_succ, Array.replicate_zero, List.push_toArray, List.append_toArray, List.nil_append, List.cons_append]
 have BT := ((Blk.new w 37 #[.i s0, .b s1, .u s2, .i s3, .b i0, .i i1, .b i2, .u i3, .i i4, .i i5, .b i6, .u i7, .i i8, .slice A n c]).alloc (.cells #[.b x0, .i x1, .b x2, .u x3, .i x4, .i x5, .b x6, .u x7, .i x8] 34)).alloc (.cells #[.b false, .i 0, .b false, .u 0, .i 0, .i 0, .b false, .u 0, .i 0] 34)
 have BX := (Blk.new1 w (.cells #[.i s0, .b s1, .u s2, .i s3, .b i0, .i i1, .b i2, .u i3, .i i4, .i i5, .b i6, .u i7, .i i8, .slice A n c] 37) 34 #[.b x0, .i x1, .b x2, .u x3, .i x4, .i x5, .b x6, .u x7, .i x8]).alloc (.cells #[.b false, .i 0, .b false, .u 0, .i 0, .i 0, .b false, .u 0, .i 0] 34)
 have BR := Blk.new2 w (.cells #[.i s0, .b s1, .u s2, .i s3, .b i0, .i i1, .b i2, .u i3, .i i4, .i i5, .b i6, .u i7, .i i8, .slice A n c] 37) (.cells #[.b x0, .i x1, .b x2, .u x3, .i x4, .i x5, .b x6, .u x7, .i x8] 34) 34 #[.b false, .i 0, .b false, .u 0, .i 0, .i 0, .b false, .u 0, .i 0]
 have HBd := bl_alloc (bl_alloc (bl_alloc (Below.refl w.heap.size w) (.cells #[.i s0, .b s1, .u s2, .i s3, .b i0, .i i1, .b i2, .u i3, .i i4, .i i5, .b i6, .u i7, .i i8, .slice A n c] 37)) (.cells #[.b x0, .i x1, .b x2, .u x3, .i x4, .i x5, .b x6, .u x7, .i x8] 34)) (.cells #[.b false, .i 0, .b false, .u 0, .i 0, .i 0, .b false, .u 0, .i 0] 34)
 have HM := Lib.hid (fun W h => tmay_calls s0 s1 s2 s3 i0 i1 i2 i3 i4 i5 i6 i7 i8 A n c xs W h)
 have HA := Lib.hid (fun W => mayI_calls x0 x1 x2 x3 x4 x5 x6 x7 x8 W)
 rw [hm] at HM
 rw [hx2] at HA
 subst hx
 go_wp2_with (first
  | (go_at_call 14; refine (HM.out _ (hs.on HBd)).mono ?_; rintro e w1 ⟨rfl, hb⟩; replace BT := BT.call hb; replace BX := BX.call hb; replace BR := BR.call hb; replace HBd := bl_trans HBd hb; clear hb; obtain ⟨t0, t1, t2, t3, t4, t5, t6, t7, t8, t9, t10, t11, t12, t13⟩ := BT.c14; obtain ⟨⟨y0, y1, y2, y3, y4, y5, y6, y7, y8⟩, _⟩ := BX.c9)
  | (go_at_call 27; (with_reducible refine (HA.out _).mono ?_); rintro e w2 ⟨rfl, hb⟩; replace BT := BT.call hb; replace BX := BX.call hb; replace BR := BR.call hb; replace HBd := bl_trans HBd hb; clear hb)
  | (go_at_call 35; (with_reducible refine (none_lit9 _).mono ?_); rintro e w3 ⟨rfl, hb⟩; replace BT := BT.call hb; replace BX := BX.call hb; replace BR := BR.call hb; replace HBd := bl_trans HBd hb; clear hb)
  | (refine wpList_stG rfl 34 (.tmp 4) (.tmp 22) rfl (w.heap.size + 2) _ _ BR rfl rfl (by kernel_rfl) rfl (by simp [Value.oneCell']) ?_; intro W3 B3 P3))
 exact ⟨_, over_results _ _ (w.heap.size + 2) _ _ _ _ _ _ _ _ _ rfl B3, rfl, P3.bel HBd (by omega)⟩

set_option maxRecDepth 100000 in
set_option maxHeartbeats 16000000 in
theorem over_d (s0 : Int) (s1 : Bool) (s2 s3 : Int) (i0 : Bool) (i1 : Int) (i2 : Bool) (i3 i4 i5 : Int) (i6 : Bool) (i7 i8 : Int) (A : Option Addr) (n c : Nat) (xs : List Slc) (x0 : Bool) (x1 : Int) (x2 : Bool) (x3 x4 x5 : Int) (x6 : Bool) (x7 x8 : Int) (w : World) (hs : SlT w w.heap.size A n xs) (hm : mayT ⟨⟨s0, s1, s2, s3⟩, ⟨i0, ⟨i1, i2, i3, i4⟩, ⟨i5, i6, i7, i8⟩⟩, xs⟩ = true) (hx : x0 = false) (hx2 : mayI ⟨x0, ⟨x1, x2, x3, x4⟩, ⟨x5, x6, x7, x8⟩⟩ = true) (hd : cmpN ⟨x1, x2, x3, x4⟩ ⟨s0, s1, s2, s3⟩ < 0) :
  Calls Tryz.prog 77 #[.agg #[.i s0, .b s1, .u s2, .i s3, .b i0, .i i1, .b i2, .u i3, .i i4, .i i5, .b i6, .u i7, .i i8, .slice A n c], .agg #[.b x0, .i x1, .b x2, .u x3, .i x4, .i x5, .b x6, .u x7, .i x8]] w fun e w' => e = .returned (.agg #[.b false, .i 2, .b true, .u 0, .i 0, .i 2, .b false, .u 0, .i 0]) ∧ Below w.heap.size w w' := by
 refine (callsIn_wide (n := 4)).1 ?_
 refine callsIn_of_wp_marks Tryz.func77 rfl trivial ?_ rfl
 refine wpIn_wide.2 ?_
 simp only [Tryz.ntmps77, List.size_toArray, List.length_cons, List.length_nil, Nat.reduceAdd, Nat.reduceSub, Array.replicate_succ, Array.replicate_zero, List.push_toArray, List.append_toArray, List.nil_append, List.cons_append]
 have BT := ((Blk.new w 37 #[.i s0, .b s1, .u s2, .i s3, .b i0, .i i1, .b i2, .u i3, .i i4, .i i5, .b i6, .u i7, .i i8, .slice A n c]).alloc (.cells #[.b x0, .i x1, .b x2, .u x3, .i x4, .i x5, .b x6, .u x7, .i x8] 34)).alloc (.cells #[.b false, .i 0, .b false, .u 0, .i 0, .i 0, .b false, .u 0, .i 0] 34)
 have BX := (Blk.new1 w (.cells #[.i s0, .b s1, .u s2, .i s3, .b i0, .i i1, .b i2, .u i3, .i i4, .i i5, .b i6, .u i7, .i i8, .slice A n c] 37) 34 #[.b x0, .i x1, .b x2, .u x3, .i x4, .i x5, .b x6, .u x7, .i x8]).alloc (.cells #[.b false, .i 0, .b false, .u 0, .i 0, .i 0, .b false, .u 0, .i 0] 34)
 have BR := Blk.new2 w (.cells #[.i s0, .b s1, .u s2, .i s3, .b i0, .i i1, .b i2, .u i3, .i i4, .i i5, .b i6, .u i7, .i i8, .slice A n c] 37) (.cells #[.b x0, .i x1, .b x2, .u x3, .i x4, .i x5, .b x6, .u x7, .i x8] 34) 34 #[.b false, .i 0, .b false, .u 0, .i 0, .i 0, .b false, .u 0, .i 0]
 have HBd := bl_alloc (bl_alloc (bl_alloc (Below.refl w.heap.size w) (.cells #[.i s0, .b s1, .u s2, .i s3, .b i0, .i i1, .b i2, .u i3, .i i4, .i i5, .b i6, .u i7, .i i8, .slice A n c] 37)) (.cells #[.b x0, .i x1, .b x2, .u x3, .i x4, .i x5, .b x6, .u x7, .i x8] 34)) (.cells #[.b false, .i 0, .b false, .u 0, .i 0, .i 0, .b false, .u 0, .i 0] 34)
 have HM := Lib.hid (fun W h => tmay_calls s0 s1 s2 s3 i0 i1 i2 i3 i4 i5 i6 i7 i8 A n c xs W h)
 have HA := Lib.hid (fun W => mayI_calls x0 x1 x2 x3 x4 x5 x6 x7 x8 W)
 rw [hm] at HM
 rw [hx2] at HA
 subst hx
 have HC1 := Lib.hid (fun W => cmpN_calls x1 x2 x3 x4 s0 s1 s2 s3 W)
 generalize hc1 : cmpN ⟨x1, x2, x3, x4⟩ ⟨s0, s1, s2, s3⟩ = c1 at HC1 hd
 clear hc1
 replace hd := Lib.hid hd
 go_wp2_with (first
  | (go_at_call 14; refine (HM.out _ (hs.on HBd)).mono ?_; rintro e w1 ⟨rfl, hb⟩; replace BT := BT.call hb; replace BX := BX.call hb; replace BR := BR.call hb; replace HBd := bl_trans HBd hb; clear hb; obtain ⟨t0, t1, t2, t3, t4, t5, t6, t7, t8, t9, t10, t11, t12, t13⟩ := BT.c14; obtain ⟨⟨y0, y1, y2, y3, y4, y5, y6, y7, y8⟩, _⟩ := BX.c9)
  | (go_at_call 27; (with_reducible refine (HA.out _).mono ?_); rintro e w2 ⟨rfl, hb⟩; replace BT := BT.call hb; replace BX := BX.call hb; replace BR := BR.call hb; replace HBd := bl_trans HBd hb; clear hb))
 clear t0 t1 t2 t3 t4 t5 t6 t7 t8 t9 t10 t11 t12 t13 y0 y1 y2 y3 y4 y5 y6 y7 y8
 replace BT := BT.drew
 replace BX := BX.drew
 replace BR := BR.drew
 replace HBd := bl_drew HBd
 replace hd := hd.out
 refine wp_calm ?_
 refine start_ (n := 15) (S := fun w' => w'.cell? ⟨w.heap.size, 0, none⟩ = some (.i s0) ∧ w'.cell? ⟨w.heap.size, 1, none⟩ = some (.b s1) ∧ w'.cell? ⟨w.heap.size, 2, none⟩ = some (.u s2) ∧ w'.cell? ⟨w.heap.size, 3, none⟩ = some (.i s3) ∧ w'.cell? ⟨w.heap.size, 4, none⟩ = some (.b i0) ∧ w'.cell? ⟨w.heap.size, 5, none⟩ = some (.i i1) ∧ w'.cell? ⟨w.heap.size, 6, none⟩ = some (.b i2) ∧ w'.cell? ⟨w.heap.size, 7, none⟩ = some (.u i3) ∧ w'.cell? ⟨w.heap.size, 8, none⟩ = some (.i i4) ∧ w'.cell? ⟨w.heap.size, 9, none⟩ = some (.i i5) ∧ w'.cell? ⟨w.heap.size, 10, none⟩ = some (.b i6) ∧ w'.cell? ⟨w.heap.size, 11, none⟩ = some (.u i7) ∧ w'.cell? ⟨w.heap.size, 12, none⟩ = some (.i i8) ∧ w'.cell? ⟨w.heap.size, 13, none⟩ = some (.slice A n c) ∧ w'.cell? ⟨w.heap.size + 1, 0, none⟩ = some (.b false) ∧ w'.cell? ⟨w.heap.size + 1, 1, none⟩ = some (.i x1) ∧ w'.cell? ⟨w.heap.size + 1, 2, none⟩ = some (.b x2) ∧ w'.cell? ⟨w.heap.size + 1, 3, none⟩ = some (.u x3) ∧ w'.cell? ⟨w.heap.size + 1, 4, none⟩ = some (.i x4) ∧ w'.cell? ⟨w.heap.size + 1, 5, none⟩ = some (.i x5) ∧ w'.cell? ⟨w.heap.size + 1, 6, none⟩ = some (.b x6) ∧ w'.cell? ⟨w.heap.size + 1, 7, none⟩ = some (.u x7) ∧ w'.cell? ⟨w.heap.size + 1, 8, none⟩ = some (.i x8)) (ds := []) (bq 15 0) (by kernel_rfl) rfl rfl ⟨BT.cell 0, BT.cell 1, BT.cell 2, BT.cell 3, BT.cell 4, BT.cell 5, BT.cell 6, BT.cell 7, BT.cell 8, BT.cell 9, BT.cell 10, BT.cell 11, BT.cell 12, BT.cell 13, BX.cell 0, BX.cell 1, BX.cell 2, BX.cell 3, BX.cell 4, BX.cell 5, BX.cell 6, BX.cell 7, BX.cell 8⟩ (fun hHeld => ?_)
 generalize hWW : World.drew _ = w3 at BT BX BR HBd hHeld ⊢
 clear hWW
 refine pu 0 24 (bq 15 1) ?_ ?_ (fun _ => ?_) ?_ ?_
 rotate_left 2
 ·go_simp
  with_reducible rfl
 ·simp only [Act.put, pA, pB, pC]
  rfl
 refine tk 1 25 (bq 15 3) ?_ ?_ ?_ ?_ hHeld ?_
 rotate_left 2
 ·rintro w' ⟨s0_, s1_, s2_, s3_, s4_, s5_, s6_, s7_, s8_, s9_, s10_, s11_, s12_, s13_, s14_, s15_, s16_, s17_, s18_, s19_, s20_, s21_, s22_⟩
  go_simp
  with_reducible rfl
 ·simp only [Act.put, pA, pB, pC]
  rfl
 refine pu 2 26 (bq 15 7) ?_ ?_ (fun _ => ?_) ?_ ?_
 rotate_left 2
 ·go_simp
  with_reducible rfl
 ·simp only [Act.put, pA, pB, pC]
  rfl
 refine tk 3 27 (bq 15 15) ?_ ?_ ?_ ?_ hHeld ?_
 rotate_left 2
 ·rintro w' ⟨s0_, s1_, s2_, s3_, s4_, s5_, s6_, s7_, s8_, s9_, s10_, s11_, s12_, s13_, s14_, s15_, s16_, s17_, s18_, s19_, s20_, s21_, s22_⟩
  go_simp
  with_reducible rfl
 ·simp only [Act.put, pA, pB, pC]
  rfl
 refine on 4 28 (bq 15 31) (fun K hK => ?_)
 refine goes_ Tryz.func28 (by kernel_rfl) rfl #[.agg #[.i x1, .b x2, .u x3, .i x4], .agg #[.i s0, .b s1, .u s2, .i s3]] (by first | rfl | go_simp) rfl rfl (by simp only [List.map_toArray, List.map_cons, List.map_nil] <;> rfl) ?_
 with_reducible refine (HC1.out _).mono ?_
 rintro e w4 ⟨rfl, hb⟩
 refine ⟨_, rfl, ?_⟩
 replace BT := BT.call hb
 replace BX := BX.call hb
 replace BR := BR.call hb
 replace HBd := bl_trans HBd hb
 refine hK.out _ _ ⟨BT.cell 0, BT.cell 1, BT.cell 2, BT.cell 3, BT.cell 4, BT.cell 5, BT.cell 6, BT.cell 7, BT.cell 8, BT.cell 9, BT.cell 10, BT.cell 11, BT.cell 12, BT.cell 13, BX.cell 0, BX.cell 1, BX.cell 2, BX.cell 3, BX.cell 4, BX.cell 5, BX.cell 6, BX.cell 7, BX.cell 8⟩ (fun hHeld => ?_)
 clear hK K hb
 refine norm_ (a' := ?_) ?_ ?_
 rotate_left
 ·show Act.put _ (some 28) _ = _
  simp only [Act.put, pA, pB, pC]
  rfl
 refine pu 5 29 (bq 15 63) ?_ ?_ (fun _ => ?_) ?_ ?_
 rotate_left 2
 ·go_simp
  with_reducible rfl
 ·simp only [Act.put, pA, pB, pC]
  rfl
 try rw [hdb.out]
 refine pu 6 30 (bq 15 127) ?_ ?_ (fun _ => ?_) ?_ ?_
 rotate_left 2
 ·go_simp
  with_reducible rfl
 ·simp only [Act.put, pA, pB, pC]
  rfl
 refine po 7 31 (bq 15 255) ?_ ?_ ?_
 rotate_left
 ·simp only [Act.put, pA, pB, pC]
  rfl
 refine po 8 32 (bq 15 511) ?_ ?_ ?_
 rotate_left
 ·simp only [Act.put, pA, pB, pC]
  rfl
 refine po 9 33 (bq 15 1023) ?_ ?_ ?_
 rotate_left
 ·simp only [Act.put, pA, pB, pC]
  rfl
 refine po 10 34 (bq 15 2047) ?_ ?_ ?_
 rotate_left
 ·simp only [Act.put, pA, pB, pC]
  rfl
 refine po 11 35 (bq 15 4095) ?_ ?_ ?_
 rotate_left
 ·simp only [Act.put, pA, pB, pC]
  rfl
 refine po 12 36 (bq 15 8191) ?_ ?_ ?_
 rotate_left
 ·simp only [Act.put, pA, pB, pC]
  rfl
 refine pu 13 37 (bq 15 16383) ?_ ?_ (fun _ => ?_) ?_ ?_
 rotate_left 2
 ·go_simp
  with_reducible rfl
 ·simp only [Act.put, pA, pB, pC]
  rfl
 refine pu 14 23 (bq 15 32767) ?_ ?_ (fun _ => ?_) ?_ ?_
 rotate_left 2
 ·go_simp
  with_reducible rfl
 ·simp only [Act.put, pA, pB, pC]
  rfl
 refine done_ (by kernel_rfl) ?_
 clear hHeld
 go_wp2_with (first
  | (go_at_call 90; (with_reducible refine (all_lit9 _).mono ?_); rintro e w3 ⟨rfl, hb⟩; replace BT := BT.call hb; replace BX := BX.call hb; replace BR := BR.call hb; replace HBd := bl_trans HBd hb; clear hb)
  | (refine wpList_stG rfl 34 (.tmp 4) (.tmp 38) rfl (w.heap.size + 2) _ _ BR rfl rfl (by kernel_rfl) rfl (by simp [Value.oneCell']) ?_; intro W3 B3 P3))
 exact ⟨_, over_results _ _ (w.heap.size + 2) _ _ _ _ _ _ _ _ _ rfl B3, rfl, P3.bel HBd (by omega)⟩

theorem may_len {s : Num} {i : Iv} {xs : List Slc} (h : mayT ⟨s, i, xs⟩ = true) : xs.length ≤ 64 := by
 unfold mayT at h
 simp only [Bool.and_eq_true, decide_eq_true_eq] at h
 exact h.1.2
set_option maxRecDepth 100000 in
set_option maxHeartbeats 16000000 in
theorem over_e (s0 : Int) (s1 : Bool) (s2 s3 : Int) (i0 : Bool) (i1 : Int) (i2 : Bool) (i3 i4 i5 : Int) (i6 : Bool) (i7 i8 : Int) (A : Option Addr) (n c : Nat) (xs : List Slc) (x0 : Bool) (x1 : Int) (x2 : Bool) (x3 x4 x5 : Int) (x6 : Bool) (x7 x8 : Int) (w : World) (hs : SlT w w.heap.size A n xs) (hm : mayT ⟨⟨s0, s1, s2, s3⟩, ⟨i0, ⟨i1, i2, i3, i4⟩, ⟨i5, i6, i7, i8⟩⟩, xs⟩ = true) (hx : x0 = false) (hx2 : mayI ⟨x0, ⟨x1, x2, x3, x4⟩, ⟨x5, x6, x7, x8⟩⟩ = true) (hd : ¬ cmpN ⟨x1, x2, x3, x4⟩ ⟨s0, s1, s2, s3⟩ < 0) (he : 0 < cmpN ⟨x5, x6, x7, x8⟩ (endT ⟨s0, s1, s2, s3⟩ xs)) :
  Calls Tryz.prog 77 #[.agg #[.i s0, .b s1, .u s2, .i s3, .b i0, .i i1, .b i2, .u i3, .i i4, .i i5, .b i6, .u i7, .i i8, .slice A n c], .agg #[.b x0, .i x1, .b x2, .u x3, .i x4, .i x5, .b x6, .u x7, .i x8]] w fun e w' => e = .returned (.agg #[.b false, .i 2, .b true, .u 0, .i 0, .i 2, .b false, .u 0, .i 0]) ∧ Below w.heap.size w w' := by
 refine (callsIn_wide (n := 4)).1 ?_
 refine callsIn_of_wp_marks Tryz.func77 rfl trivial ?_ rfl
 refine wpIn_wide.2 ?_
 simp only [Tryz.ntmps77, List.size_toArray, List.length_cons, List.length_nil, Nat.reduceAdd, Nat.reduceSub, Array.replicate_succ, Array.replicate_zero, List.push_toArray, List.append_toArray, List.nil_append, List.cons_append]
 have BT := ((Blk.new w 37 #[.i s0, .b s1, .u s2, .i s3, .b i0, .i i1, .b i2, .u i3, .i i4, .i i5, .b i6, .u i7, .i i8, .slice A n c]).alloc (.cells #[.b x0, .i x1, .b x2, .u x3, .i x4, .i x5, .b x6, .u x7, .i x8] 34)).alloc (.cells #[.b false, .i 0, .b false, .u 0, .i 0, .i 0, .b false, .u 0, .i 0] 34)
 have BX := (Blk.new1 w (.cells #[.i s0, .b s1, .u s2, .i s3, .b i0, .i i1, .b i2, .u i3, .i i4, .i i5, .b i6, .u i7, .i i8, .slice A n c] 37) 34 #[.b x0, .i x1, .b x2, .u x3, .i x4, .i x5, .b x6, .u x7, .i x8]).alloc (.cells #[.b false, .i 0, .b false, .u 0, .i 0, .i 0, .b false, .u 0, .i 0] 34)
 have BR := Blk.new2 w (.cells #[.i s0, .b s1, .u s2, .i s3, .b i0, .i i1, .b i2, .u i3, .i i4, .i i5, .b i6, .u i7, .i i8, .slice A n c] 37) (.cells #[.b x0, .i x1, .b x2, .u x3, .i x4, .i x5, .b x6, .u x7, .i x8] 34) 34 #[.b false, .i 0, .b false, .u 0, .i 0, .i 0, .b false, .u 0, .i 0]
 have HBd := bl_alloc (bl_alloc (bl_alloc (Below.refl w.heap.size w) (.cells #[.i s0, .b s1, .u s2, .i s3, .b i0, .i i1, .b i2, .u i3, .i i4, .i i5, .b i6, .u i7, .i i8, .slice A n c] 37)) (.cells #[.b x0, .i x1, .b x2, .u x3, .i x4, .i x5, .b x6, .u x7, .i x8] 34)) (.cells #[.b false, .i 0, .b false, .u 0, .i 0, .i 0, .b false, .u 0, .i 0] 34)
 have HM := Lib.hid (fun W h => tmay_calls s0 s1 s2 s3 i0 i1 i2 i3 i4 i5 i6 i7 i8 A n c xs W h)
 have HA := Lib.hid (fun W => mayI_calls x0 x1 x2 x3 x4 x5 x6 x7 x8 W)
 have HE := Lib.hid (fun W h => tend_calls s0 s1 s2 s3 i0 i1 i2 i3 i4 i5 i6 i7 i8 A n c xs W h (by have := hs.1; have := may_len hm; omega))
 generalize endT ⟨s0, s1, s2, s3⟩ xs = zz at HE he
 obtain ⟨z0, z1, z2, z3⟩ := zz
 have HC2 := Lib.hid (fun W => cmpN_calls x5 x6 x7 x8 z0 z1 z2 z3 W)
 generalize hc2 : cmpN ⟨x5, x6, x7, x8⟩ ⟨z0, z1, z2, z3⟩ = c2 at HC2 he
 clear hc2
 rw [hm] at HM
 rw [hx2] at HA
 subst hx
 have HC1 := Lib.hid (fun W => cmpN_calls x1 x2 x3 x4 s0 s1 s2 s3 W)
 generalize hc1 : cmpN ⟨x1, x2, x3, x4⟩ ⟨s0, s1, s2, s3⟩ = c1 at HC1 hd
 clear hc1
 replace hd := Lib.hid hd
 go_wp2_with (first
  | (go_at_call 14; refine (HM.out _ (hs.on HBd)).mono ?_; rintro e w1 ⟨rfl, hb⟩; replace BT := BT.call hb; replace BX := BX.call hb; replace BR := BR.call hb; replace HBd := bl_trans HBd hb; clear hb; obtain ⟨t0, t1, t2, t3, t4, t5, t6, t7, t8, t9, t10, t11, t12, t13⟩ := BT.c14; obtain ⟨⟨y0, y1, y2, y3, y4, y5, y6, y7, y8⟩, _⟩ := BX.c9)
  | (go_at_call 27; (with_reducible refine (HA.out _).mono ?_); rintro e w2 ⟨rfl, hb⟩; replace BT := BT.call hb; replace BX := BX.call hb; replace BR := BR.call hb; replace HBd := bl_trans HBd hb; clear hb))
 clear t0 t1 t2 t3 t4 t5 t6 t7 t8 t9 t10 t11 t12 t13 y0 y1 y2 y3 y4 y5 y6 y7 y8
 replace BT := BT.drew
 replace BX := BX.drew
 replace BR := BR.drew
 replace HBd := bl_drew HBd
 replace hd := hd.out
 refine wp_calm ?_
 have hdb : decide (c1 < 0) = false := decide_eq_false (by omega)
 replace hdb := Lib.hid hdb
 clear hd
 refine start_ (n := 15) (S := fun w' => w'.cell? ⟨w.heap.size, 0, none⟩ = some (.i s0) ∧ w'.cell? ⟨w.heap.size, 1, none⟩ = some (.b s1) ∧ w'.cell? ⟨w.heap.size, 2, none⟩ = some (.u s2) ∧ w'.cell? ⟨w.heap.size, 3, none⟩ = some (.i s3) ∧ w'.cell? ⟨w.heap.size, 4, none⟩ = some (.b i0) ∧ w'.cell? ⟨w.heap.size, 5, none⟩ = some (.i i1) ∧ w'.cell? ⟨w.heap.size, 6, none⟩ = some (.b i2) ∧ w'.cell? ⟨w.heap.size, 7, none⟩ = some (.u i3) ∧ w'.cell? ⟨w.heap.size, 8, none⟩ = some (.i i4) ∧ w'.cell? ⟨w.heap.size, 9, none⟩ = some (.i i5) ∧ w'.cell? ⟨w.heap.size, 10, none⟩ = some (.b i6) ∧ w'.cell? ⟨w.heap.size, 11, none⟩ = some (.u i7) ∧ w'.cell? ⟨w.heap.size, 12, none⟩ = some (.i i8) ∧ w'.cell? ⟨w.heap.size, 13, none⟩ = some (.slice A n c) ∧ w'.cell? ⟨w.heap.size + 1, 0, none⟩ = some (.b false) ∧ w'.cell? ⟨w.heap.size + 1, 1, none⟩ = some (.i x1) ∧ w'.cell? ⟨w.heap.size + 1, 2, none⟩ = some (.b x2) ∧ w'.cell? ⟨w.heap.size + 1, 3, none⟩ = some (.u x3) ∧ w'.cell? ⟨w.heap.size + 1, 4, none⟩ = some (.i x4) ∧ w'.cell? ⟨w.heap.size + 1, 5, none⟩ = some (.i x5) ∧ w'.cell? ⟨w.heap.size + 1, 6, none⟩ = some (.b x6) ∧ w'.cell? ⟨w.heap.size + 1, 7, none⟩ = some (.u x7) ∧ w'.cell? ⟨w.heap.size + 1, 8, none⟩ = some (.i x8)) (ds := []) (bq 15 0) (by kernel_rfl) rfl rfl ⟨BT.cell 0, BT.cell 1, BT.cell 2, BT.cell 3, BT.cell 4, BT.cell 5, BT.cell 6, BT.cell 7, BT.cell 8, BT.cell 9, BT.cell 10, BT.cell 11, BT.cell 12, BT.cell 13, BX.cell 0, BX.cell 1, BX.cell 2, BX.cell 3, BX.cell 4, BX.cell 5, BX.cell 6, BX.cell 7, BX.cell 8⟩ (fun hHeld => ?_)
 generalize hWW : World.drew _ = w3 at BT BX BR HBd hHeld ⊢
 clear hWW
 refine pu 0 24 (bq 15 1) ?_ ?_ (fun _ => ?_) ?_ ?_
 rotate_left 2
 ·go_simp
  with_reducible rfl
 ·simp only [Act.put, pA, pB, pC]
  rfl
 refine tk 1 25 (bq 15 3) ?_ ?_ ?_ ?_ hHeld ?_
 rotate_left 2
 ·rintro w' ⟨s0_, s1_, s2_, s3_, s4_, s5_, s6_, s7_, s8_, s9_, s10_, s11_, s12_, s13_, s14_, s15_, s16_, s17_, s18_, s19_, s20_, s21_, s22_⟩
  go_simp
  with_reducible rfl
 ·simp only [Act.put, pA, pB, pC]
  rfl
 refine pu 2 26 (bq 15 7) ?_ ?_ (fun _ => ?_) ?_ ?_
 rotate_left 2
 ·go_simp
  with_reducible rfl
 ·simp only [Act.put, pA, pB, pC]
  rfl
 refine tk 3 27 (bq 15 15) ?_ ?_ ?_ ?_ hHeld ?_
 rotate_left 2
 ·rintro w' ⟨s0_, s1_, s2_, s3_, s4_, s5_, s6_, s7_, s8_, s9_, s10_, s11_, s12_, s13_, s14_, s15_, s16_, s17_, s18_, s19_, s20_, s21_, s22_⟩
  go_simp
  with_reducible rfl
 ·simp only [Act.put, pA, pB, pC]
  rfl
 refine on 4 28 (bq 15 31) (fun K hK => ?_)
 refine goes_ Tryz.func28 (by kernel_rfl) rfl #[.agg #[.i x1, .b x2, .u x3, .i x4], .agg #[.i s0, .b s1, .u s2, .i s3]] (by first | rfl | go_simp) rfl rfl (by simp only [List.map_toArray, List.map_cons, List.map_nil] <;> rfl) ?_
 with_reducible refine (HC1.out _).mono ?_
 rintro e w4 ⟨rfl, hb⟩
 refine ⟨_, rfl, ?_⟩
 replace BT := BT.call hb
 replace BX := BX.call hb
 replace BR := BR.call hb
 replace HBd := bl_trans HBd hb
 refine hK.out _ _ ⟨BT.cell 0, BT.cell 1, BT.cell 2, BT.cell 3, BT.cell 4, BT.cell 5, BT.cell 6, BT.cell 7, BT.cell 8, BT.cell 9, BT.cell 10, BT.cell 11, BT.cell 12, BT.cell 13, BX.cell 0, BX.cell 1, BX.cell 2, BX.cell 3, BX.cell 4, BX.cell 5, BX.cell 6, BX.cell 7, BX.cell 8⟩ (fun hHeld => ?_)
 clear hK K hb
 refine norm_ (a' := ?_) ?_ ?_
 rotate_left
 ·show Act.put _ (some 28) _ = _
  simp only [Act.put, pA, pB, pC]
  rfl
 refine pu 5 29 (bq 15 63) ?_ ?_ (fun _ => ?_) ?_ ?_
 rotate_left 2
 ·go_simp
  with_reducible rfl
 ·simp only [Act.put, pA, pB, pC]
  rfl
 try rw [hdb.out]
 refine pu 6 30 (bq 15 127) ?_ ?_ (fun _ => ?_) ?_ ?_
 rotate_left 2
 ·go_simp
  with_reducible rfl
 ·simp only [Act.put, pA, pB, pC]
  rfl
 refine pu 7 31 (bq 15 255) ?_ ?_ (fun _ => ?_) ?_ ?_
 rotate_left 2
 ·go_simp
  with_reducible rfl
 ·simp only [Act.put, pA, pB, pC]
  rfl
 refine tk 8 32 (bq 15 511) ?_ ?_ ?_ ?_ hHeld ?_
 rotate_left 2
 ·rintro w' ⟨s0_, s1_, s2_, s3_, s4_, s5_, s6_, s7_, s8_, s9_, s10_, s11_, s12_, s13_, s14_, s15_, s16_, s17_, s18_, s19_, s20_, s21_, s22_⟩
  go_simp
  with_reducible rfl
 ·simp only [Act.put, pA, pB, pC]
  rfl
 refine tk 9 33 (bq 15 1023) ?_ ?_ ?_ ?_ hHeld ?_
 rotate_left 2
 ·rintro w' ⟨s0_, s1_, s2_, s3_, s4_, s5_, s6_, s7_, s8_, s9_, s10_, s11_, s12_, s13_, s14_, s15_, s16_, s17_, s18_, s19_, s20_, s21_, s22_⟩
  go_simp
  with_reducible rfl
 ·simp only [Act.put, pA, pB, pC]
  rfl
 refine on 10 34 (bq 15 2047) (fun K hK => ?_)
 refine goes_ Tryz.func89 (by kernel_rfl) rfl #[.agg #[.i s0, .b s1, .u s2, .i s3, .b i0, .i i1, .b i2, .u i3, .i i4, .i i5, .b i6, .u i7, .i i8, .slice A n c]] (by first | rfl | go_simp) rfl rfl (by simp only [List.map_toArray, List.map_cons, List.map_nil] <;> rfl) ?_
 with_reducible refine (HE.out _ (hs.on HBd)).mono ?_
 rintro e w5 ⟨rfl, hb⟩
 refine ⟨_, rfl, ?_⟩
 replace BT := BT.call hb
 replace BX := BX.call hb
 replace BR := BR.call hb
 replace HBd := bl_trans HBd hb
 refine hK.out _ _ ⟨BT.cell 0, BT.cell 1, BT.cell 2, BT.cell 3, BT.cell 4, BT.cell 5, BT.cell 6, BT.cell 7, BT.cell 8, BT.cell 9, BT.cell 10, BT.cell 11, BT.cell 12, BT.cell 13, BX.cell 0, BX.cell 1, BX.cell 2, BX.cell 3, BX.cell 4, BX.cell 5, BX.cell 6, BX.cell 7, BX.cell 8⟩ (fun hHeld => ?_)
 clear hK K hb
 refine norm_ (a' := ?_) ?_ ?_
 rotate_left
 ·show Act.put _ (some 34) _ = _
  simp only [Act.put, pA, pB, pC]
  rfl
 refine on 11 35 (bq 15 4095) (fun K hK => ?_)
 refine goes_ Tryz.func28 (by kernel_rfl) rfl #[.agg #[.i x5, .b x6, .u x7, .i x8], .agg #[.i z0, .b z1, .u z2, .i z3]] (by first | rfl | go_simp) rfl rfl (by simp only [List.map_toArray, List.map_cons, List.map_nil] <;> rfl) ?_
 with_reducible refine (HC2.out _).mono ?_
 rintro e w6 ⟨rfl, hb⟩
 refine ⟨_, rfl, ?_⟩
 replace BT := BT.call hb
 replace BX := BX.call hb
 replace BR := BR.call hb
 replace HBd := bl_trans HBd hb
 refine hK.out _ _ ⟨BT.cell 0, BT.cell 1, BT.cell 2, BT.cell 3, BT.cell 4, BT.cell 5, BT.cell 6, BT.cell 7, BT.cell 8, BT.cell 9, BT.cell 10, BT.cell 11, BT.cell 12, BT.cell 13, BX.cell 0, BX.cell 1, BX.cell 2, BX.cell 3, BX.cell 4, BX.cell 5, BX.cell 6, BX.cell 7, BX.cell 8⟩ (fun hHeld => ?_)
 clear hK K hb
 refine norm_ (a' := ?_) ?_ ?_
 rotate_left
 ·show Act.put _ (some 35) _ = _
  simp only [Act.put, pA, pB, pC]
  rfl
 refine pu 12 36 (bq 15 8191) ?_ ?_ (fun _ => ?_) ?_ ?_
 rotate_left 2
 ·go_simp
  with_reducible rfl
 ·simp only [Act.put, pA, pB, pC]
  rfl
 refine pu 13 37 (bq 15 16383) ?_ ?_ (fun _ => ?_) ?_ ?_
 rotate_left 2
 ·go_simp
  with_reducible rfl
 ·simp only [Act.put, pA, pB, pC]
  rfl
 refine pu 14 23 (bq 15 32767) ?_ ?_ (fun _ => ?_) ?_ ?_
 rotate_left 2
 ·go_simp
  with_reducible rfl
 ·simp only [Act.put, pA, pB, pC]
  rfl
 refine done_ (by kernel_rfl) ?_
 clear hHeld
 go_wp2_with (first
  | (go_at_call 90; (with_reducible refine (all_lit9 _).mono ?_); rintro e w3 ⟨rfl, hb⟩; replace BT := BT.call hb; replace BX := BX.call hb; replace BR := BR.call hb; replace HBd := bl_trans HBd hb; clear hb)
  | (refine wpList_stG rfl 34 (.tmp 4) (.tmp 38) rfl (w.heap.size + 2) _ _ BR rfl rfl (by kernel_rfl) rfl (by simp [Value.oneCell']) ?_; intro W3 B3 P3))
 exact ⟨_, over_results _ _ (w.heap.size + 2) _ _ _ _ _ _ _ _ _ rfl B3, rfl, P3.bel HBd (by omega)⟩

end Go.Proofs.YteabdeohhmbclaaGreat.Wk
