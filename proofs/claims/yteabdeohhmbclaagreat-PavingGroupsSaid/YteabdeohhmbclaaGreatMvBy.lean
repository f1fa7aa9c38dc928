/- Walk: paving.Out. -/
import Derived.Test.YteabdeohhmbclaaGreatMvAy
import Derived.Test.YteabdeohhmbclaaGreatArWy
namespace Go.Proofs.YteabdeohhmbclaaGreat.Wk
open Go.RowKit Go.Proofs.Pl Go.Proofs.YteabdeohhmbclaaGreatW.PrintLast
set_option linter.unusedSimpArgs false
set_option linter.unusedVariables false

def outP (s : Num) (i : Iv) (xs : List Slc) (t : Num) (j : Iv) (ys : List Slc) (g : Num) (a b : Iv) : Bool :=
 if (a.emp || b.emp || !mayI a || !mayI b) = true then true else decide (cmpN (subN b.hi a.lo true) g < 0) || movesP s i xs a b || movesP t j ys a b
theorem out_pre (s0 : Int) (s1 : Bool) (s2 s3 : Int) (i0 : Bool) (i1 : Int) (i2 : Bool) (i3 i4 i5 : Int) (i6 : Bool) (i7 i8 : Int) (A : Option Addr) (n c : Nat) (t0 : Int) (t1 : Bool) (t2 t3 : Int) (j0 : Bool) (j1 : Int) (j2 : Bool) (j3 j4 j5 : Int) (j6 : Bool) (j7 j8 : Int) (B : Option Addr) (m d : Nat) (g0 : Int) (g1 : Bool) (g2 g3 : Int) (a0 : Bool) (a1 : Int) (a2 : Bool) (a3 a4 a5 : Int) (a6 : Bool) (a7 a8 : Int) (b0 : Bool) (b1 : Int) (b2 : Bool) (b3 b4 b5 : Int) (b6 : Bool) (b7 b8 : Int) (w : World) :
  ∃ W, W = (((w.alloc (.cells #[.i s0, .b s1, .u s2, .i s3, .b i0, .i i1, .b i2, .u i3, .i i4, .i i5, .b i6, .u i7, .i i8, .slice A n c] 37)).alloc (.cells #[.i t0, .b t1, .u t2, .i t3, .b j0, .i j1, .b j2, .u j3, .i j4, .i j5, .b j6, .u j7, .i j8, .slice B m d] 37)).alloc (.cells #[.i g0, .b g1, .u g2, .i g3] 32)).alloc (.cells #[.b a0, .i a1, .b a2, .u a3, .i a4, .i a5, .b a6, .u a7, .i a8, .b b0, .i b1, .b b2, .u b3, .i b4, .i b5, .b b6, .u b7, .i b8] 41) ∧ Blk W w.heap.size 37 #[.i s0, .b s1, .u s2, .i s3, .b i0, .i i1, .b i2, .u i3, .i i4, .i i5, .b i6, .u i7, .i i8, .slice A n c] ∧ Blk W (w.heap.size + 1) 37 #[.i t0, .b t1, .u t2, .i t3, .b j0, .i j1, .b j2, .u j3, .i j4, .i j5, .b j6, .u j7, .i j8, .slice B m d] ∧ Blk W (w.heap.size + 2) 32 #[.i g0, .b g1, .u g2, .i g3] ∧ Blk W (w.heap.size + 3) 41 #[.b a0, .i a1, .b a2, .u a3, .i a4, .i a5, .b a6, .u a7, .i a8, .b b0, .i b1, .b b2, .u b3, .i b4, .i b5, .b b6, .u b7, .i b8] ∧ Below w.heap.size w W :=
 ⟨_, rfl, (((Blk.new w _ _).alloc _).alloc _).alloc _, ((Blk.new1 w _ _ _).alloc _).alloc _, (Blk.new2 w _ _ _ _).alloc _, Blk.new3 w _ _ _ _ _, bl_alloc (bl_alloc (bl_alloc (bl_alloc (Below.refl w.heap.size w) _) _) _) _⟩
theorem Blk.c18 {w : World} {g : Nat} {t : TypeId} {x0 x1 x2 x3 x4 x5 x6 x7 x8 x9 x10 x11 x12 x13 x14 x15 x16 x17 : Value} (h : Blk w g t #[x0, x1, x2, x3, x4, x5, x6, x7, x8, x9, x10, x11, x12, x13, x14, x15, x16, x17]) :
  w.cell? ⟨g, 0, none⟩ = some x0 ∧ w.cell? ⟨g, 1, none⟩ = some x1 ∧ w.cell? ⟨g, 2, none⟩ = some x2 ∧ w.cell? ⟨g, 3, none⟩ = some x3 ∧ w.cell? ⟨g, 4, none⟩ = some x4 ∧ w.cell? ⟨g, 5, none⟩ = some x5 ∧ w.cell? ⟨g, 6, none⟩ = some x6 ∧ w.cell? ⟨g, 7, none⟩ = some x7 ∧ w.cell? ⟨g, 8, none⟩ = some x8 ∧ w.cell? ⟨g, 9, none⟩ = some x9 ∧ w.cell? ⟨g, 10, none⟩ = some x10 ∧ w.cell? ⟨g, 11, none⟩ = some x11 ∧ w.cell? ⟨g, 12, none⟩ = some x12 ∧ w.cell? ⟨g, 13, none⟩ = some x13 ∧ w.cell? ⟨g, 14, none⟩ = some x14 ∧ w.cell? ⟨g, 15, none⟩ = some x15 ∧ w.cell? ⟨g, 16, none⟩ = some x16 ∧ w.cell? ⟨g, 17, none⟩ = some x17 :=
 ⟨h.cell 0, h.cell 1, h.cell 2, h.cell 3, h.cell 4, h.cell 5, h.cell 6, h.cell 7, h.cell 8, h.cell 9, h.cell 10, h.cell 11, h.cell 12, h.cell 13, h.cell 14, h.cell 15, h.cell 16, h.cell 17⟩
set_option maxRecDepth 100000 in
set_option maxHeartbeats 16000000 in
theorem out_a (s0 : Int) (s1 : Bool) (s2 s3 : Int) (i0 : Bool) (i1 : Int) (i2 : Bool) (i3 i4 i5 : Int) (i6 : Bool) (i7 i8 : Int) (A : Option Addr) (n c : Nat) (xs : List Slc) (t0 : Int) (t1 : Bool) (t2 t3 : Int) (j0 : Bool) (j1 : Int) (j2 : Bool) (j3 j4 j5 : Int) (j6 : Bool) (j7 j8 : Int) (B : Option Addr) (m d : Nat) (ys : List Slc) (g0 : Int) (g1 : Bool) (g2 g3 : Int) (a0 : Bool) (a1 : Int) (a2 : Bool) (a3 a4 a5 : Int) (a6 : Bool) (a7 a8 : Int) (b0 : Bool) (b1 : Int) (b2 : Bool) (b3 b4 b5 : Int) (b6 : Bool) (b7 b8 : Int) (w : World) (ha : a0 = true) :
  Calls Tryz.prog 31 #[.agg #[.i s0, .b s1, .u s2, .i s3, .b i0, .i i1, .b i2, .u i3, .i i4, .i i5, .b i6, .u i7, .i i8, .slice A n c], .agg #[.i t0, .b t1, .u t2, .i t3, .b j0, .i j1, .b j2, .u j3, .i j4, .i j5, .b j6, .u j7, .i j8, .slice B m d], .agg #[.i g0, .b g1, .u g2, .i g3], .agg #[.b a0, .i a1, .b a2, .u a3, .i a4, .i a5, .b a6, .u a7, .i a8, .b b0, .i b1, .b b2, .u b3, .i b4, .i b5, .b b6, .u b7, .i b8]] w fun e w' => e = .returned (.b true) ∧ Below w.heap.size w w' := by
 obtain ⟨W_, rfl, BX, BY, BG, BP, HBd⟩ := out_pre s0 s1 s2 s3 i0 i1 i2 i3 i4 i5 i6 i7 i8 A n c t0 t1 t2 t3 j0 j1 j2 j3 j4 j5 j6 j7 j8 B m d g0 g1 g2 g3 a0 a1 a2 a3 a4 a5 a6 a7 a8 b0 b1 b2 b3 b4 b5 b6 b7 b8 w
 have HMa := Lib.hid (fun W => mayI_calls a0 a1 a2 a3 a4 a5 a6 a7 a8 W)
 have HMb := Lib.hid (fun W => mayI_calls b0 b1 b2 b3 b4 b5 b6 b7 b8 W)
 subst ha
 go_enter Tryz.func31, Tryz.ntmps31
 go_wp2
 go_ret
 exact ⟨by first | rfl | simp, HBd⟩

set_option maxRecDepth 100000 in
set_option maxHeartbeats 16000000 in
theorem out_b (s0 : Int) (s1 : Bool) (s2 s3 : Int) (i0 : Bool) (i1 : Int) (i2 : Bool) (i3 i4 i5 : Int) (i6 : Bool) (i7 i8 : Int) (A : Option Addr) (n c : Nat) (xs : List Slc) (t0 : Int) (t1 : Bool) (t2 t3 : Int) (j0 : Bool) (j1 : Int) (j2 : Bool) (j3 j4 j5 : Int) (j6 : Bool) (j7 j8 : Int) (B : Option Addr) (m d : Nat) (ys : List Slc) (g0 : Int) (g1 : Bool) (g2 g3 : Int) (a0 : Bool) (a1 : Int) (a2 : Bool) (a3 a4 a5 : Int) (a6 : Bool) (a7 a8 : Int) (b0 : Bool) (b1 : Int) (b2 : Bool) (b3 b4 b5 : Int) (b6 : Bool) (b7 b8 : Int) (w : World) (ha : a0 = false) (hb0 : b0 = true) :
  Calls Tryz.prog 31 #[.agg #[.i s0, .b s1, .u s2, .i s3, .b i0, .i i1, .b i2, .u i3, .i i4, .i i5, .b i6, .u i7, .i i8, .slice A n c], .agg #[.i t0, .b t1, .u t2, .i t3, .b j0, .i j1, .b j2, .u j3, .i j4, .i j5, .b j6, .u j7, .i j8, .slice B m d], .agg #[.i g0, .b g1, .u g2, .i g3], .agg #[.b a0, .i a1, .b a2, .u a3, .i a4, .i a5, .b a6, .u a7, .i a8, .b b0, .i b1, .b b2, .u b3, .i b4, .i b5, .b b6, .u b7, .i b8]] w fun e w' => e = .returned (.b true) ∧ Below w.heap.size w w' := by
 obtain ⟨W_, rfl, BX, BY, BG, BP, HBd⟩ := out_pre s0 s1 s2 s3 i0 i1 i2 i3 i4 i5 i6 i7 i8 A n c t0 t1 t2 t3 j0 j1 j2 j3 j4 j5 j6 j7 j8 B m d g0 g1 g2 g3 a0 a1 a2 a3 a4 a5 a6 a7 a8 b0 b1 b2 b3 b4 b5 b6 b7 b8 w
 have HMa := Lib.hid (fun W => mayI_calls a0 a1 a2 a3 a4 a5 a6 a7 a8 W)
 have HMb := Lib.hid (fun W => mayI_calls b0 b1 b2 b3 b4 b5 b6 b7 b8 W)
 subst ha
 subst hb0
 go_enter Tryz.func31, Tryz.ntmps31
 go_wp2
 go_ret
 exact ⟨by first | rfl | simp, HBd⟩

set_option maxRecDepth 100000 in
set_option maxHeartbeats 16000000 in
theorem out_c (s0 : Int) (s1 : Bool) (s2 s3 : Int) (i0 : Bool) (i1 : Int) (i2 : Bool) (i3 i4 i5 : Int) (i6 : Bool) (i7 i8 : Int) (A : Option Addr) (n c : Nat) (xs : List Slc) (t0 : Int) (t1 : Bool) (t2 t3 : Int) (j0 : Bool) (j1 : Int) (j2 : Bool) (j3 j4 j5 : Int) (j6 : Bool) (j7 j8 : Int) (B : Option Addr) (m d : Nat) (ys : List Slc) (g0 : Int) (g1 : Bool) (g2 g3 : Int) (a0 : Bool) (a1 : Int) (a2 : Bool) (a3 a4 a5 : Int) (a6 : Bool) (a7 a8 : Int) (b0 : Bool) (b1 : Int) (b2 : Bool) (b3 b4 b5 : Int) (b6 : Bool) (b7 b8 : Int) (w : World) (ha : a0 = false) (hb0 : b0 = false) (hma : mayI ⟨a0, ⟨a1, a2, a3, a4⟩, ⟨a5, a6, a7, a8⟩⟩ = false) :
  Calls Tryz.prog 31 #[.agg #[.i s0, .b s1, .u s2, .i s3, .b i0, .i i1, .b i2, .u i3, .i i4, .i i5, .b i6, .u i7, .i i8, .slice A n c], .agg #[.i t0, .b t1, .u t2, .i t3, .b j0, .i j1, .b j2, .u j3, .i j4, .i j5, .b j6, .u j7, .i j8, .slice B m d], .agg #[.i g0, .b g1, .u g2, .i g3], .agg #[.b a0, .i a1, .b a2, .u a3, .i a4, .i a5, .b a6, .u a7, .i a8, .b b0, .i b1, .b b2, .u b3, .i b4, .i b5, .b b6, .u b7, .i b8]] w fun e w' => e = .returned (.b true) ∧ Below w.heap.size w w' := by
 obtain ⟨W_, rfl, BX, BY, BG, BP, HBd⟩ := out_pre s0 s1 s2 s3 i0 i1 i2 i3 i4 i5 i6 i7 i8 A n c t0 t1 t2 t3 j0 j1 j2 j3 j4 j5 j6 j7 j8 B m d g0 g1 g2 g3 a0 a1 a2 a3 a4 a5 a6 a7 a8 b0 b1 b2 b3 b4 b5 b6 b7 b8 w
 have HMa := Lib.hid (fun W => mayI_calls a0 a1 a2 a3 a4 a5 a6 a7 a8 W)
 have HMb := Lib.hid (fun W => mayI_calls b0 b1 b2 b3 b4 b5 b6 b7 b8 W)
 rw [hma] at HMa
 subst ha
 subst hb0
 go_enter Tryz.func31, Tryz.ntmps31
 go_wp2_with (first
  | (go_at_call 27; (with_reducible refine (HMa.out _).mono ?_); rintro e w1 ⟨rfl, hb⟩; replace BX := BX.call hb; replace BY := BY.call hb; replace BG := BG.call hb; replace BP := BP.call hb; replace HBd := bl_trans HBd hb; clear hb; obtain ⟨p0, p1, p2, p3, p4, p5, p6, p7, p8, p9, p10, p11, p12, p13, p14, p15, p16, p17⟩ := BP.c18))
 go_ret
 exact ⟨by first | rfl | simp, HBd⟩

set_option maxRecDepth 100000 in
set_option maxHeartbeats 16000000 in
theorem out_d (s0 : Int) (s1 : Bool) (s2 s3 : Int) (i0 : Bool) (i1 : Int) (i2 : Bool) (i3 i4 i5 : Int) (i6 : Bool) (i7 i8 : Int) (A : Option Addr) (n c : Nat) (xs : List Slc) (t0 : Int) (t1 : Bool) (t2 t3 : Int) (j0 : Bool) (j1 : Int) (j2 : Bool) (j3 j4 j5 : Int) (j6 : Bool) (j7 j8 : Int) (B : Option Addr) (m d : Nat) (ys : List Slc) (g0 : Int) (g1 : Bool) (g2 g3 : Int) (a0 : Bool) (a1 : Int) (a2 : Bool) (a3 a4 a5 : Int) (a6 : Bool) (a7 a8 : Int) (b0 : Bool) (b1 : Int) (b2 : Bool) (b3 b4 b5 : Int) (b6 : Bool) (b7 b8 : Int) (w : World) (ha : a0 = false) (hb0 : b0 = false) (hma : mayI ⟨a0, ⟨a1, a2, a3, a4⟩, ⟨a5, a6, a7, a8⟩⟩ = true) (hmb : mayI ⟨b0, ⟨b1, b2, b3, b4⟩, ⟨b5, b6, b7, b8⟩⟩ = false) :
  Calls Tryz.prog 31 #[.agg #[.i s0, .b s1, .u s2, .i s3, .b i0, .i i1, .b i2, .u i3, .i i4, .i i5, .b i6, .u i7, .i i8, .slice A n c], .agg #[.i t0, .b t1, .u t2, .i t3, .b j0, .i j1, .b j2, .u j3, .i j4, .i j5, .b j6, .u j7, .i j8, .slice B m d], .agg #[.i g0, .b g1, .u g2, .i g3], .agg #[.b a0, .i a1, .b a2, .u a3, .i a4, .i a5, .b a6, .u a7, .i a8, .b b0, .i b1, .b b2, .u b3, .i b4, .i b5, .b b6, .u b7, .i b8]] w fun e w' => e = .returned (.b true) ∧ Below w.heap.size w w' := by
 obtain ⟨W_, rfl, BX, BY, BG, BP, HBd⟩ := out_pre s0 s1 s2 s3 i0 i1 i2 i3 i4 i5 i6 i7 i8 A n c t0 t1 t2 t3 j0 j1 j2 j3 j4 j5 j6 j7 j8 B m d g0 g1 g2 g3 a0 a1 a2 a3 a4 a5 a6 a7 a8 b0 b1 b2 b3 b4 b5 b6 b7 b8 w
 have HMa := Lib.hid (fun W => mayI_calls a0 a1 a2 a3 a4 a5 a6 a7 a8 W)
 have HMb := Lib.hid (fun W => mayI_calls b0 b1 b2 b3 b4 b5 b6 b7 b8 W)
 rw [hma] at HMa
 rw [hmb] at HMb
 subst ha
 subst hb0
 go_enter Tryz.func31, Tryz.ntmps31
 have HMa1 := HMa
 go_wp2_with (first
  | (go_at_call 27; (with_reducible refine (HMa.out _).mono ?_); rintro e w1 ⟨rfl, hb⟩; replace BX := BX.call hb; replace BY := BY.call hb; replace BG := BG.call hb; replace BP := BP.call hb; replace HBd := bl_trans HBd hb; clear hb; obtain ⟨p0, p1, p2, p3, p4, p5, p6, p7, p8, p9, p10, p11, p12, p13, p14, p15, p16, p17⟩ := BP.c18) 
  | (go_at_call 27; (with_reducible refine (HMb.out _).mono ?_); rintro e w2 ⟨rfl, hb⟩; replace BX := BX.call hb; replace BY := BY.call hb; replace BG := BG.call hb; replace BP := BP.call hb; replace HBd := bl_trans HBd hb; clear hb; obtain ⟨p0, p1, p2, p3, p4, p5, p6, p7, p8, p9, p10, p11, p12, p13, p14, p15, p16, p17⟩ := BP.c18))
 go_ret
 exact ⟨by first | rfl | simp, HBd⟩

theorem yieldsIf_blk {ops : Array Oper} {S : World → Prop} {o : Oper} {a : Act} (hw : Region.wanted o (yielded ops a.tmps) = true) (ty : TypeId) (p : Operand) (ho : o.op = .load ty p) (g : Nat) (hp : a.eval p = .pointer (some ⟨g, 0, none⟩)) (cs : Array Value) (d : TypeDesc) (hS : ∀ w, S w → Blk w g ty cs)
  (hd : d.isRow = true) (hu : Tryz.prog.underlying ty = some d) (hi : (Tryz.prog.info? ty).map (·.size) = some cs.size) : YieldsIf Tryz.prog ops S o (.agg cs) a :=
 .inl ⟨hw, fun w hs => by
  unfold execOp
  simp only [ho, hp, Instr.loadAt, Instr.sureAddr, Sem.run_bind, Sem.run_pure, Result.andThen_ok, run_loadVar_row w g ty ty cs (0, 0) d (hS w hs) hu (by cases d <;> first | rfl | cases hd) hi]⟩
set_option maxRecDepth 100000 in
set_option maxHeartbeats 16000000 in
theorem out_e (s0 : Int) (s1 : Bool) (s2 s3 : Int) (i0 : Bool) (i1 : Int) (i2 : Bool) (i3 i4 i5 : Int) (i6 : Bool) (i7 i8 : Int) (A : Option Addr) (n c : Nat) (xs : List Slc) (t0 : Int) (t1 : Bool) (t2 t3 : Int) (j0 : Bool) (j1 : Int) (j2 : Bool) (j3 j4 j5 : Int) (j6 : Bool) (j7 j8 : Int) (B : Option Addr) (m d : Nat) (ys : List Slc) (g0 : Int) (g1 : Bool) (g2 g3 : Int) (a0 : Bool) (a1 : Int) (a2 : Bool) (a3 a4 a5 : Int) (a6 : Bool) (a7 a8 : Int) (b0 : Bool) (b1 : Int) (b2 : Bool) (b3 b4 b5 : Int) (b6 : Bool) (b7 b8 : Int) (w : World) (hs : SlT w w.heap.size A n xs) (ht : SlT w w.heap.size B m ys) (wx : WfTb ⟨s0, s1, s2, s3⟩ ⟨i0, ⟨i1, i2, i3, i4⟩, ⟨i5, i6, i7, i8⟩⟩ xs) (wy : WfTb ⟨t0, t1, t2, t3⟩ ⟨j0, ⟨j1, j2, j3, j4⟩, ⟨j5, j6, j7, j8⟩⟩ ys) (wa : Wf ⟨a1, a2, a3, a4⟩) (wb : Wf ⟨b5, b6, b7, b8⟩) (ha : a0 = false) (hb0 : b0 = false) (hma : mayI ⟨a0, ⟨a1, a2, a3, a4⟩, ⟨a5, a6, a7, a8⟩⟩ = true) (hmb : mayI ⟨b0, ⟨b1, b2, b3, b4⟩, ⟨b5, b6, b7, b8⟩⟩ = true) (hn : cmpN (subN ⟨b5, b6, b7, b8⟩ ⟨a1, a2, a3, a4⟩ true) ⟨g0, g1, g2, g3⟩ < 0) :
  Calls Tryz.prog 31 #[.agg #[.i s0, .b s1, .u s2, .i s3, .b i0, .i i1, .b i2, .u i3, .i i4, .i i5, .b i6, .u i7, .i i8, .slice A n c], .agg #[.i t0, .b t1, .u t2, .i t3, .b j0, .i j1, .b j2, .u j3, .i j4, .i j5, .b j6, .u j7, .i j8, .slice B m d], .agg #[.i g0, .b g1, .u g2, .i g3], .agg #[.b a0, .i a1, .b a2, .u a3, .i a4, .i a5, .b a6, .u a7, .i a8, .b b0, .i b1, .b b2, .u b3, .i b4, .i b5, .b b6, .u b7, .i b8]] w fun e w' => e = .returned (.b (decide (cmpN (subN ⟨b5, b6, b7, b8⟩ ⟨a1, a2, a3, a4⟩ true) ⟨g0, g1, g2, g3⟩ < 0) || movesP ⟨s0, s1, s2, s3⟩ ⟨i0, ⟨i1, i2, i3, i4⟩, ⟨i5, i6, i7, i8⟩⟩ xs ⟨a0, ⟨a1, a2, a3, a4⟩, ⟨a5, a6, a7, a8⟩⟩ ⟨b0, ⟨b1, b2, b3, b4⟩, ⟨b5, b6, b7, b8⟩⟩ || movesP ⟨t0, t1, t2, t3⟩ ⟨j0, ⟨j1, j2, j3, j4⟩, ⟨j5, j6, j7, j8⟩⟩ ys ⟨a0, ⟨a1, a2, a3, a4⟩, ⟨a5, a6, a7, a8⟩⟩ ⟨b0, ⟨b1, b2, b3, b4⟩, ⟨b5, b6, b7, b8⟩⟩)) ∧ Below w.heap.size w w' := by
 obtain ⟨W_, rfl, BX, BY, BG, BP, HBd⟩ := out_pre s0 s1 s2 s3 i0 i1 i2 i3 i4 i5 i6 i7 i8 A n c t0 t1 t2 t3 j0 j1 j2 j3 j4 j5 j6 j7 j8 B m d g0 g1 g2 g3 a0 a1 a2 a3 a4 a5 a6 a7 a8 b0 b1 b2 b3 b4 b5 b6 b7 b8 w
 have HMa := Lib.hid (fun W => mayI_calls a0 a1 a2 a3 a4 a5 a6 a7 a8 W)
 have HMb := Lib.hid (fun W => mayI_calls b0 b1 b2 b3 b4 b5 b6 b7 b8 W)
 rw [hma] at HMa
 rw [hmb] at HMb
 subst ha
 subst hb0
 have HS := (fun W => subN_calls b5 b6 b7 b8 a1 a2 a3 a4 true wb wa W)
 have HX := (fun W h => moves_calls s0 s1 s2 s3 i0 i1 i2 i3 i4 i5 i6 i7 i8 A n c xs false a1 a2 a3 a4 a5 a6 a7 a8 false b1 b2 b3 b4 b5 b6 b7 b8 W h wx)
 have HY := (fun W h => moves_calls t0 t1 t2 t3 j0 j1 j2 j3 j4 j5 j6 j7 j8 B m d ys false a1 a2 a3 a4 a5 a6 a7 a8 false b1 b2 b3 b4 b5 b6 b7 b8 W h wy)
 generalize movesP ⟨s0, s1, s2, s3⟩ ⟨i0, ⟨i1, i2, i3, i4⟩, ⟨i5, i6, i7, i8⟩⟩ xs ⟨false, ⟨a1, a2, a3, a4⟩, ⟨a5, a6, a7, a8⟩⟩ ⟨false, ⟨b1, b2, b3, b4⟩, ⟨b5, b6, b7, b8⟩⟩ = mx at HX ⊢
 generalize movesP ⟨t0, t1, t2, t3⟩ ⟨j0, ⟨j1, j2, j3, j4⟩, ⟨j5, j6, j7, j8⟩⟩ ys ⟨false, ⟨a1, a2, a3, a4⟩, ⟨a5, a6, a7, a8⟩⟩ ⟨false, ⟨b1, b2, b3, b4⟩, ⟨b5, b6, b7, b8⟩⟩ = my at HY ⊢
 generalize subN ⟨b5, b6, b7, b8⟩ ⟨a1, a2, a3, a4⟩ true = r at HS hn ⊢
 obtain ⟨r0, r1, r2, r3⟩ := r
 have HC := (fun W => cmpN_calls r0 r1 r2 r3 g0 g1 g2 g3 W)
 generalize cmpN ⟨r0, r1, r2, r3⟩ ⟨g0, g1, g2, g3⟩ = cc at HC hn ⊢
 dsimp only at HS HX HY HC ⊢
 replace HS := Lib.hid HS
 replace HX := Lib.hid HX
 replace HY := Lib.hid HY
 replace HC := Lib.hid HC
 clear wa wb wx wy
 rw [show decide (cc < 0) = true from decide_eq_true hn, Bool.true_or, Bool.true_or]
 go_enter Tryz.func31, Tryz.ntmps31
 go_wp2_with (first
  | (go_at_call 27; (with_reducible refine (HMa.out _).mono ?_); rintro e w1 ⟨rfl, hb⟩; replace BX := BX.call hb; replace BY := BY.call hb; replace BG := BG.call hb; replace BP := BP.call hb; replace HBd := bl_trans HBd hb; clear hb; obtain ⟨p0, p1, p2, p3, p4, p5, p6, p7, p8, p9, p10, p11, p12, p13, p14, p15, p16, p17⟩ := BP.c18)
  | (go_at_call 27; (with_reducible refine (HMb.out _).mono ?_); rintro e w2 ⟨rfl, hb⟩; replace BX := BX.call hb; replace BY := BY.call hb; replace BG := BG.call hb; replace BP := BP.call hb; replace HBd := bl_trans HBd hb; clear hb; obtain ⟨p0, p1, p2, p3, p4, p5, p6, p7, p8, p9, p10, p11, p12, p13, p14, p15, p16, p17⟩ := BP.c18))
 clear p0 p1 p2 p3 p4 p5 p6 p7 p8 p9 p10 p11 p12 p13 p14 p15 p16 p17
 replace BX := BX.drew
 replace BY := BY.drew
 replace BG := BG.drew
 replace BP := BP.drew
 replace HBd := bl_drew HBd
 refine start_ (n := 21) (S := fun w' => Blk w' w.heap.size 37 #[.i s0, .b s1, .u s2, .i s3, .b i0, .i i1, .b i2, .u i3, .i i4, .i i5, .b i6, .u i7, .i i8, .slice A n c] ∧ Blk w' (w.heap.size + 1) 37 #[.i t0, .b t1, .u t2, .i t3, .b j0, .i j1, .b j2, .u j3, .i j4, .i j5, .b j6, .u j7, .i j8, .slice B m d] ∧ Blk w' (w.heap.size + 2) 32 #[.i g0, .b g1, .u g2, .i g3] ∧ Blk w' (w.heap.size + 3) 41 #[.b false, .i a1, .b a2, .u a3, .i a4, .i a5, .b a6, .u a7, .i a8, .b false, .i b1, .b b2, .u b3, .i b4, .i b5, .b b6, .u b7, .i b8]) (ds := []) (bq 21 0) (by kernel_rfl) rfl rfl ⟨BX, BY, BG, BP⟩ (fun hHeld => ?_)
 generalize hWW : World.drew _ = w3 at BX BY BG BP HBd hHeld ⊢
 clear hWW
 refine pu 0 29 (bq 21 1) ?_ ?_ (fun _ => ?_) ?_ ?_
 rotate_left 2
 ·go_simp
  with_reducible rfl
 ·simp only [Act.put, pA, pB, pC]
  rfl
 refine pu 1 30 (bq 21 3) ?_ ?_ (fun _ => ?_) ?_ ?_
 rotate_left 2
 ·go_simp
  with_reducible rfl
 ·simp only [Act.put, pA, pB, pC]
  rfl
 refine tk 2 31 (bq 21 7) ?_ ?_ ?_ ?_ hHeld ?_
 rotate_left 2
 ·rintro w' ⟨s0_, s1_, s2_, s3_⟩
  obtain ⟨o0_, o1_, o2_, o3_, o4_, o5_, o6_, o7_, o8_, o9_, o10_, o11_, o12_, o13_, o14_, o15_, o16_, o17_⟩ := s3_.c18
  go_simp
  with_reducible rfl
 ·simp only [Act.put, pA, pB, pC]
  rfl
 refine pu 3 32 (bq 21 15) ?_ ?_ (fun _ => ?_) ?_ ?_
 rotate_left 2
 ·go_simp
  with_reducible rfl
 ·simp only [Act.put, pA, pB, pC]
  rfl
 refine pu 4 33 (bq 21 31) ?_ ?_ (fun _ => ?_) ?_ ?_
 rotate_left 2
 ·go_simp
  with_reducible rfl
 ·simp only [Act.put, pA, pB, pC]
  rfl
 refine tk 5 34 (bq 21 63) ?_ ?_ ?_ ?_ hHeld ?_
 rotate_left 2
 ·rintro w' ⟨s0_, s1_, s2_, s3_⟩
  obtain ⟨o0_, o1_, o2_, o3_, o4_, o5_, o6_, o7_, o8_, o9_, o10_, o11_, o12_, o13_, o14_, o15_, o16_, o17_⟩ := s3_.c18
  go_simp
  with_reducible rfl
 ·simp only [Act.put, pA, pB, pC]
  rfl
 refine tk 7 36 (bq 21 191) ?_ ?_ ?_ ?_ hHeld ?_
 rotate_left 2
 ·rintro w' ⟨s0_, s1_, s2_, s3_⟩
  obtain ⟨⟨o0_, o1_, o2_, o3_⟩, _⟩ := s2_.c4
  go_simp
  with_reducible rfl
 ·simp only [Act.put, pA, pB, pC]
  rfl
 refine on 6 35 (bq 21 255) (fun K hK => ?_)
 refine goes_ Tryz.func58 (by kernel_rfl) rfl #[.agg #[.i b5, .b b6, .u b7, .i b8], .agg #[.i a1, .b a2, .u a3, .i a4], .b true] (by first | rfl | go_simp) rfl rfl (by simp only [List.map_toArray, List.map_cons, List.map_nil] <;> rfl) ?_
 with_reducible refine (HS.out _).mono ?_
 rintro e w4 ⟨rfl, hb⟩
 refine ⟨_, rfl, ?_⟩
 replace BX := BX.call hb
 replace BY := BY.call hb
 replace BG := BG.call hb
 replace BP := BP.call hb
 replace HBd := bl_trans HBd hb
 refine hK.out _ _ ⟨BX, BY, BG, BP⟩ (fun hHeld => ?_)
 clear hK K hb
 refine norm_ (a' := ?_) ?_ ?_
 rotate_left
 ·show Act.put _ (some 35) _ = _
  simp only [Act.put, pA, pB, pC]
  rfl
 refine on 8 37 (bq 21 511) (fun K hK => ?_)
 refine goes_ Tryz.func28 (by kernel_rfl) rfl #[.agg #[.i r0, .b r1, .u r2, .i r3], .agg #[.i g0, .b g1, .u g2, .i g3]] (by first | rfl | go_simp) rfl rfl (by simp only [List.map_toArray, List.map_cons, List.map_nil] <;> rfl) ?_
 with_reducible refine (HC.out _).mono ?_
 rintro e w5 ⟨rfl, hb⟩
 refine ⟨_, rfl, ?_⟩
 replace BX := BX.call hb
 replace BY := BY.call hb
 replace BG := BG.call hb
 replace BP := BP.call hb
 replace HBd := bl_trans HBd hb
 refine hK.out _ _ ⟨BX, BY, BG, BP⟩ (fun hHeld => ?_)
 clear hK K hb
 refine norm_ (a' := ?_) ?_ ?_
 rotate_left
 ·show Act.put _ (some 37) _ = _
  simp only [Act.put, pA, pB, pC]
  rfl
 refine pu 9 38 (bq 21 1023) ?_ ?_ (fun _ => ?_) ?_ ?_
 rotate_left 2
 ·go_simp
  with_reducible rfl
 ·simp only [Act.put, pA, pB, pC]
  rfl
 try rw [hdb.out]
 refine pu 10 39 (bq 21 2047) ?_ ?_ (fun _ => ?_) ?_ ?_
 rotate_left 2
 ·go_simp
  with_reducible rfl
 ·simp only [Act.put, pA, pB, pC]
  rfl
 refine po 11 40 (bq 21 4095) ?_ ?_ ?_
 rotate_left
 ·simp only [Act.put, pA, pB, pC]
  rfl
 refine po 12 41 (bq 21 8191) ?_ ?_ ?_
 rotate_left
 ·simp only [Act.put, pA, pB, pC]
  rfl
 refine po 13 42 (bq 21 16383) ?_ ?_ ?_
 rotate_left
 ·simp only [Act.put, pA, pB, pC]
  rfl
 refine pu 14 43 (bq 21 32767) ?_ ?_ (fun _ => ?_) ?_ ?_
 rotate_left 2
 ·go_simp
  with_reducible rfl
 ·simp only [Act.put, pA, pB, pC]
  rfl
 refine pu 15 44 (bq 21 65535) ?_ ?_ (fun _ => ?_) ?_ ?_
 rotate_left 2
 ·go_simp
  with_reducible rfl
 ·simp only [Act.put, pA, pB, pC]
  rfl
 refine po 16 45 (bq 21 131071) ?_ ?_ ?_
 rotate_left
 ·simp only [Act.put, pA, pB, pC]
  rfl
 refine po 17 46 (bq 21 262143) ?_ ?_ ?_
 rotate_left
 ·simp only [Act.put, pA, pB, pC]
  rfl
 refine po 18 47 (bq 21 524287) ?_ ?_ ?_
 rotate_left
 ·simp only [Act.put, pA, pB, pC]
  rfl
 refine pu 19 48 (bq 21 1048575) ?_ ?_ (fun _ => ?_) ?_ ?_
 rotate_left 2
 ·go_simp
  with_reducible rfl
 ·simp only [Act.put, pA, pB, pC]
  rfl
 refine pu 20 8 (bq 21 2097151) ?_ ?_ (fun _ => ?_) ?_ ?_
 rotate_left 2
 ·go_simp
  with_reducible rfl
 ·simp only [Act.put, pA, pB, pC]
  rfl
 refine done_ (by as_aux_lemma => kernel_rfl) ?_
 clear hHeld
 go_wp2_with fail
 go_ret
 exact ⟨by first | rfl | simp, HBd⟩

set_option maxRecDepth 100000 in
set_option maxHeartbeats 16000000 in
theorem out_f (s0 : Int) (s1 : Bool) (s2 s3 : Int) (i0 : Bool) (i1 : Int) (i2 : Bool) (i3 i4 i5 : Int) (i6 : Bool) (i7 i8 : Int) (A : Option Addr) (n c : Nat) (xs : List Slc) (t0 : Int) (t1 : Bool) (t2 t3 : Int) (j0 : Bool) (j1 : Int) (j2 : Bool) (j3 j4 j5 : Int) (j6 : Bool) (j7 j8 : Int) (B : Option Addr) (m d : Nat) (ys : List Slc) (g0 : Int) (g1 : Bool) (g2 g3 : Int) (a0 : Bool) (a1 : Int) (a2 : Bool) (a3 a4 a5 : Int) (a6 : Bool) (a7 a8 : Int) (b0 : Bool) (b1 : Int) (b2 : Bool) (b3 b4 b5 : Int) (b6 : Bool) (b7 b8 : Int) (w : World) (hs : SlT w w.heap.size A n xs) (ht : SlT w w.heap.size B m ys) (wx : WfTb ⟨s0, s1, s2, s3⟩ ⟨i0, ⟨i1, i2, i3, i4⟩, ⟨i5, i6, i7, i8⟩⟩ xs) (wy : WfTb ⟨t0, t1, t2, t3⟩ ⟨j0, ⟨j1, j2, j3, j4⟩, ⟨j5, j6, j7, j8⟩⟩ ys) (wa : Wf ⟨a1, a2, a3, a4⟩) (wb : Wf ⟨b5, b6, b7, b8⟩) (ha : a0 = false) (hb0 : b0 = false) (hma : mayI ⟨a0, ⟨a1, a2, a3, a4⟩, ⟨a5, a6, a7, a8⟩⟩ = true) (hmb : mayI ⟨b0, ⟨b1, b2, b3, b4⟩, ⟨b5, b6, b7, b8⟩⟩ = true) (hn : ¬ cmpN (subN ⟨b5, b6, b7, b8⟩ ⟨a1, a2, a3, a4⟩ true) ⟨g0, g1, g2, g3⟩ < 0) (hm : movesP ⟨s0, s1, s2, s3⟩ ⟨i0, ⟨i1, i2, i3, i4⟩, ⟨i5, i6, i7, i8⟩⟩ xs ⟨a0, ⟨a1, a2, a3, a4⟩, ⟨a5, a6, a7, a8⟩⟩ ⟨b0, ⟨b1, b2, b3, b4⟩, ⟨b5, b6, b7, b8⟩⟩ = false) :
  Calls Tryz.prog 31 #[.agg #[.i s0, .b s1, .u s2, .i s3, .b i0, .i i1, .b i2, .u i3, .i i4, .i i5, .b i6, .u i7, .i i8, .slice A n c], .agg #[.i t0, .b t1, .u t2, .i t3, .b j0, .i j1, .b j2, .u j3, .i j4, .i j5, .b j6, .u j7, .i j8, .slice B m d], .agg #[.i g0, .b g1, .u g2, .i g3], .agg #[.b a0, .i a1, .b a2, .u a3, .i a4, .i a5, .b a6, .u a7, .i a8, .b b0, .i b1, .b b2, .u b3, .i b4, .i b5, .b b6, .u b7, .i b8]] w fun e w' => e = .returned (.b (decide (cmpN (subN ⟨b5, b6, b7, b8⟩ ⟨a1, a2, a3, a4⟩ true) ⟨g0, g1, g2, g3⟩ < 0) || movesP ⟨s0, s1, s2, s3⟩ ⟨i0, ⟨i1, i2, i3, i4⟩, ⟨i5, i6, i7, i8⟩⟩ xs ⟨a0, ⟨a1, a2, a3, a4⟩, ⟨a5, a6, a7, a8⟩⟩ ⟨b0, ⟨b1, b2, b3, b4⟩, ⟨b5, b6, b7, b8⟩⟩ || movesP ⟨t0, t1, t2, t3⟩ ⟨j0, ⟨j1, j2, j3, j4⟩, ⟨j5, j6, j7, j8⟩⟩ ys ⟨a0, ⟨a1, a2, a3, a4⟩, ⟨a5, a6, a7, a8⟩⟩ ⟨b0, ⟨b1, b2, b3, b4⟩, ⟨b5, b6, b7, b8⟩⟩)) ∧ Below w.heap.size w w' := by
 obtain ⟨W_, rfl, BX, BY, BG, BP, HBd⟩ := out_pre s0 s1 s2 s3 i0 i1 i2 i3 i4 i5 i6 i7 i8 A n c t0 t1 t2 t3 j0 j1 j2 j3 j4 j5 j6 j7 j8 B m d g0 g1 g2 g3 a0 a1 a2 a3 a4 a5 a6 a7 a8 b0 b1 b2 b3 b4 b5 b6 b7 b8 w
 have HMa := Lib.hid (fun W => mayI_calls a0 a1 a2 a3 a4 a5 a6 a7 a8 W)
 have HMb := Lib.hid (fun W => mayI_calls b0 b1 b2 b3 b4 b5 b6 b7 b8 W)
 rw [hma] at HMa
 rw [hmb] at HMb
 subst ha
 subst hb0
 have HS := (fun W => subN_calls b5 b6 b7 b8 a1 a2 a3 a4 true wb wa W)
 have HX := (fun W h => moves_calls s0 s1 s2 s3 i0 i1 i2 i3 i4 i5 i6 i7 i8 A n c xs false a1 a2 a3 a4 a5 a6 a7 a8 false b1 b2 b3 b4 b5 b6 b7 b8 W h wx)
 have HY := (fun W h => moves_calls t0 t1 t2 t3 j0 j1 j2 j3 j4 j5 j6 j7 j8 B m d ys false a1 a2 a3 a4 a5 a6 a7 a8 false b1 b2 b3 b4 b5 b6 b7 b8 W h wy)
 generalize movesP ⟨s0, s1, s2, s3⟩ ⟨i0, ⟨i1, i2, i3, i4⟩, ⟨i5, i6, i7, i8⟩⟩ xs ⟨false, ⟨a1, a2, a3, a4⟩, ⟨a5, a6, a7, a8⟩⟩ ⟨false, ⟨b1, b2, b3, b4⟩, ⟨b5, b6, b7, b8⟩⟩ = mx at HX hm ⊢
 generalize movesP ⟨t0, t1, t2, t3⟩ ⟨j0, ⟨j1, j2, j3, j4⟩, ⟨j5, j6, j7, j8⟩⟩ ys ⟨false, ⟨a1, a2, a3, a4⟩, ⟨a5, a6, a7, a8⟩⟩ ⟨false, ⟨b1, b2, b3, b4⟩, ⟨b5, b6, b7, b8⟩⟩ = my at HY ⊢
 generalize subN ⟨b5, b6, b7, b8⟩ ⟨a1, a2, a3, a4⟩ true = r at HS hn ⊢
 obtain ⟨r0, r1, r2, r3⟩ := r
 have HC := (fun W => cmpN_calls r0 r1 r2 r3 g0 g1 g2 g3 W)
 generalize cmpN ⟨r0, r1, r2, r3⟩ ⟨g0, g1, g2, g3⟩ = cc at HC hn ⊢
 dsimp only at HS HX HY HC ⊢
 replace HS := Lib.hid HS
 replace HX := Lib.hid HX
 replace HY := Lib.hid HY
 replace HC := Lib.hid HC
 clear wa wb wx wy
 subst hm
 have hdb : Hid (decide (cc < 0) = false) := decide_eq_false hn
 rw [hdb.out, Bool.false_or]
 clear hn
 go_enter Tryz.func31, Tryz.ntmps31
 go_wp2_with (first
  | (go_at_call 27; (with_reducible refine (HMa.out _).mono ?_); rintro e w1 ⟨rfl, hb⟩; replace BX := BX.call hb; replace BY := BY.call hb; replace BG := BG.call hb; replace BP := BP.call hb; replace HBd := bl_trans HBd hb; clear hb; obtain ⟨p0, p1, p2, p3, p4, p5, p6, p7, p8, p9, p10, p11, p12, p13, p14, p15, p16, p17⟩ := BP.c18)
  | (go_at_call 27; (with_reducible refine (HMb.out _).mono ?_); rintro e w2 ⟨rfl, hb⟩; replace BX := BX.call hb; replace BY := BY.call hb; replace BG := BG.call hb; replace BP := BP.call hb; replace HBd := bl_trans HBd hb; clear hb; obtain ⟨p0, p1, p2, p3, p4, p5, p6, p7, p8, p9, p10, p11, p12, p13, p14, p15, p16, p17⟩ := BP.c18))
 clear p0 p1 p2 p3 p4 p5 p6 p7 p8 p9 p10 p11 p12 p13 p14 p15 p16 p17
 replace BX := BX.drew
 replace BY := BY.drew
 replace BG := BG.drew
 replace BP := BP.drew
 replace HBd := bl_drew HBd
 refine start_ (n := 21) (S := fun w' => Blk w' w.heap.size 37 #[.i s0, .b s1, .u s2, .i s3, .b i0, .i i1, .b i2, .u i3, .i i4, .i i5, .b i6, .u i7, .i i8, .slice A n c] ∧ Blk w' (w.heap.size + 1) 37 #[.i t0, .b t1, .u t2, .i t3, .b j0, .i j1, .b j2, .u j3, .i j4, .i j5, .b j6, .u j7, .i j8, .slice B m d] ∧ Blk w' (w.heap.size + 2) 32 #[.i g0, .b g1, .u g2, .i g3] ∧ Blk w' (w.heap.size + 3) 41 #[.b false, .i a1, .b a2, .u a3, .i a4, .i a5, .b a6, .u a7, .i a8, .b false, .i b1, .b b2, .u b3, .i b4, .i b5, .b b6, .u b7, .i b8]) (ds := []) (bq 21 0) (by kernel_rfl) rfl rfl ⟨BX, BY, BG, BP⟩ (fun hHeld => ?_)
 generalize hWW : World.drew _ = w3 at BX BY BG BP HBd hHeld ⊢
 clear hWW
 refine pu 0 29 (bq 21 1) ?_ ?_ (fun _ => ?_) ?_ ?_
 rotate_left 2
 ·go_simp
  with_reducible rfl
 ·simp only [Act.put, pA, pB, pC]
  rfl
 refine pu 1 30 (bq 21 3) ?_ ?_ (fun _ => ?_) ?_ ?_
 rotate_left 2
 ·go_simp
  with_reducible rfl
 ·simp only [Act.put, pA, pB, pC]
  rfl
 refine tk 2 31 (bq 21 7) ?_ ?_ ?_ ?_ hHeld ?_
 rotate_left 2
 ·rintro w' ⟨s0_, s1_, s2_, s3_⟩
  obtain ⟨o0_, o1_, o2_, o3_, o4_, o5_, o6_, o7_, o8_, o9_, o10_, o11_, o12_, o13_, o14_, o15_, o16_, o17_⟩ := s3_.c18
  go_simp
  with_reducible rfl
 ·simp only [Act.put, pA, pB, pC]
  rfl
 refine pu 3 32 (bq 21 15) ?_ ?_ (fun _ => ?_) ?_ ?_
 rotate_left 2
 ·go_simp
  with_reducible rfl
 ·simp only [Act.put, pA, pB, pC]
  rfl
 refine pu 4 33 (bq 21 31) ?_ ?_ (fun _ => ?_) ?_ ?_
 rotate_left 2
 ·go_simp
  with_reducible rfl
 ·simp only [Act.put, pA, pB, pC]
  rfl
 refine tk 5 34 (bq 21 63) ?_ ?_ ?_ ?_ hHeld ?_
 rotate_left 2
 ·rintro w' ⟨s0_, s1_, s2_, s3_⟩
  obtain ⟨o0_, o1_, o2_, o3_, o4_, o5_, o6_, o7_, o8_, o9_, o10_, o11_, o12_, o13_, o14_, o15_, o16_, o17_⟩ := s3_.c18
  go_simp
  with_reducible rfl
 ·simp only [Act.put, pA, pB, pC]
  rfl
 refine tk 7 36 (bq 21 191) ?_ ?_ ?_ ?_ hHeld ?_
 rotate_left 2
 ·rintro w' ⟨s0_, s1_, s2_, s3_⟩
  obtain ⟨⟨o0_, o1_, o2_, o3_⟩, _⟩ := s2_.c4
  go_simp
  with_reducible rfl
 ·simp only [Act.put, pA, pB, pC]
  rfl
 refine on 6 35 (bq 21 255) (fun K hK => ?_)
 refine goes_ Tryz.func58 (by kernel_rfl) rfl #[.agg #[.i b5, .b b6, .u b7, .i b8], .agg #[.i a1, .b a2, .u a3, .i a4], .b true] (by first | rfl | go_simp) rfl rfl (by simp only [List.map_toArray, List.map_cons, List.map_nil] <;> rfl) ?_
 with_reducible refine (HS.out _).mono ?_
 rintro e w4 ⟨rfl, hb⟩
 refine ⟨_, rfl, ?_⟩
 replace BX := BX.call hb
 replace BY := BY.call hb
 replace BG := BG.call hb
 replace BP := BP.call hb
 replace HBd := bl_trans HBd hb
 refine hK.out _ _ ⟨BX, BY, BG, BP⟩ (fun hHeld => ?_)
 clear hK K hb
 refine norm_ (a' := ?_) ?_ ?_
 rotate_left
 ·show Act.put _ (some 35) _ = _
  simp only [Act.put, pA, pB, pC]
  rfl
 refine on 8 37 (bq 21 511) (fun K hK => ?_)
 refine goes_ Tryz.func28 (by kernel_rfl) rfl #[.agg #[.i r0, .b r1, .u r2, .i r3], .agg #[.i g0, .b g1, .u g2, .i g3]] (by first | rfl | go_simp) rfl rfl (by simp only [List.map_toArray, List.map_cons, List.map_nil] <;> rfl) ?_
 with_reducible refine (HC.out _).mono ?_
 rintro e w5 ⟨rfl, hb⟩
 refine ⟨_, rfl, ?_⟩
 replace BX := BX.call hb
 replace BY := BY.call hb
 replace BG := BG.call hb
 replace BP := BP.call hb
 replace HBd := bl_trans HBd hb
 refine hK.out _ _ ⟨BX, BY, BG, BP⟩ (fun hHeld => ?_)
 clear hK K hb
 refine norm_ (a' := ?_) ?_ ?_
 rotate_left
 ·show Act.put _ (some 37) _ = _
  simp only [Act.put, pA, pB, pC]
  rfl
 refine pu 9 38 (bq 21 1023) ?_ ?_ (fun _ => ?_) ?_ ?_
 rotate_left 2
 ·go_simp
  with_reducible rfl
 ·simp only [Act.put, pA, pB, pC]
  rfl
 try rw [hdb.out]
 refine pu 10 39 (bq 21 2047) ?_ ?_ (fun _ => ?_) ?_ ?_
 rotate_left 2
 ·go_simp
  with_reducible rfl
 ·simp only [Act.put, pA, pB, pC]
  rfl
 refine ta 11 40 (bq 21 4095) rfl (.agg #[.i s0, .b s1, .u s2, .i s3, .b i0, .i i1, .b i2, .u i3, .i i4, .i i5, .b i6, .u i7, .i i8, .slice A n c]) ?_ hHeld (yieldsIf_blk (by rfl) 37 (.tmp 4) rfl (w.heap.size) rfl #[.i s0, .b s1, .u s2, .i s3, .b i0, .i i1, .b i2, .u i3, .i i4, .i i5, .b i6, .u i7, .i i8, .slice A n c] _ (fun _ h => h.1) rfl Tryz.underlying37 (by kernel_rfl)) ?_ ?_
 rotate_left
 ·simp only [Act.put, pA, pB, pC]
  rfl
 refine ta 12 41 (bq 21 8191) rfl (.agg #[.b false, .i a1, .b a2, .u a3, .i a4, .i a5, .b a6, .u a7, .i a8, .b false, .i b1, .b b2, .u b3, .i b4, .i b5, .b b6, .u b7, .i b8]) ?_ hHeld (yieldsIf_blk (by rfl) 41 (.tmp 7) rfl (w.heap.size + 3) rfl #[.b false, .i a1, .b a2, .u a3, .i a4, .i a5, .b a6, .u a7, .i a8, .b false, .i b1, .b b2, .u b3, .i b4, .i b5, .b b6, .u b7, .i b8] _ (fun _ h => h.2.2.2) rfl Tryz.underlying41 (by kernel_rfl)) ?_ ?_
 rotate_left
 ·simp only [Act.put, pA, pB, pC]
  rfl
 refine on 13 42 (bq 21 16383) (fun K hK => ?_)
 refine goes_ Tryz.func59 (by kernel_rfl) rfl #[.agg #[.i s0, .b s1, .u s2, .i s3, .b i0, .i i1, .b i2, .u i3, .i i4, .i i5, .b i6, .u i7, .i i8, .slice A n c], .agg #[.b false, .i a1, .b a2, .u a3, .i a4, .i a5, .b a6, .u a7, .i a8, .b false, .i b1, .b b2, .u b3, .i b4, .i b5, .b b6, .u b7, .i b8]] (by first | rfl | go_simp) rfl rfl (by simp only [List.map_toArray, List.map_cons, List.map_nil] <;> rfl) ?_
 with_reducible refine (HX.out _ (hs.on HBd)).mono ?_
 rintro e w6 ⟨rfl, hb⟩
 refine ⟨_, rfl, ?_⟩
 replace BX := BX.call hb
 replace BY := BY.call hb
 replace BG := BG.call hb
 replace BP := BP.call hb
 replace HBd := bl_trans HBd hb
 refine hK.out _ _ ⟨BX, BY, BG, BP⟩ (fun hHeld => ?_)
 clear hK K hb
 refine norm_ (a' := ?_) ?_ ?_
 rotate_left
 ·show Act.put _ (some 42) _ = _
  simp only [Act.put, pA, pB, pC]
  rfl
 refine pu 14 43 (bq 21 32767) ?_ ?_ (fun _ => ?_) ?_ ?_
 rotate_left 2
 ·go_simp
  with_reducible rfl
 ·simp only [Act.put, pA, pB, pC]
  rfl
 refine pu 15 44 (bq 21 65535) ?_ ?_ (fun _ => ?_) ?_ ?_
 rotate_left 2
 ·go_simp
  with_reducible rfl
 ·simp only [Act.put, pA, pB, pC]
  rfl
 refine ta 16 45 (bq 21 131071) rfl (.agg #[.i t0, .b t1, .u t2, .i t3, .b j0, .i j1, .b j2, .u j3, .i j4, .i j5, .b j6, .u j7, .i j8, .slice B m d]) ?_ hHeld (yieldsIf_blk (by rfl) 37 (.tmp 5) rfl (w.heap.size + 1) rfl #[.i t0, .b t1, .u t2, .i t3, .b j0, .i j1, .b j2, .u j3, .i j4, .i j5, .b j6, .u j7, .i j8, .slice B m d] _ (fun _ h => h.2.1) rfl Tryz.underlying37 (by kernel_rfl)) ?_ ?_
 rotate_left
 ·simp only [Act.put, pA, pB, pC]
  rfl
 refine ta 17 46 (bq 21 262143) rfl (.agg #[.b false, .i a1, .b a2, .u a3, .i a4, .i a5, .b a6, .u a7, .i a8, .b false, .i b1, .b b2, .u b3, .i b4, .i b5, .b b6, .u b7, .i b8]) ?_ hHeld (yieldsIf_blk (by rfl) 41 (.tmp 7) rfl (w.heap.size + 3) rfl #[.b false, .i a1, .b a2, .u a3, .i a4, .i a5, .b a6, .u a7, .i a8, .b false, .i b1, .b b2, .u b3, .i b4, .i b5, .b b6, .u b7, .i b8] _ (fun _ h => h.2.2.2) rfl Tryz.underlying41 (by kernel_rfl)) ?_ ?_
 rotate_left
 ·simp only [Act.put, pA, pB, pC]
  rfl
 refine on 18 47 (bq 21 524287) (fun K hK => ?_)
 refine goes_ Tryz.func59 (by kernel_rfl) rfl #[.agg #[.i t0, .b t1, .u t2, .i t3, .b j0, .i j1, .b j2, .u j3, .i j4, .i j5, .b j6, .u j7, .i j8, .slice B m d], .agg #[.b false, .i a1, .b a2, .u a3, .i a4, .i a5, .b a6, .u a7, .i a8, .b false, .i b1, .b b2, .u b3, .i b4, .i b5, .b b6, .u b7, .i b8]] (by first | rfl | go_simp) rfl rfl (by simp only [List.map_toArray, List.map_cons, List.map_nil] <;> rfl) ?_
 with_reducible refine (HY.out _ (ht.on HBd)).mono ?_
 rintro e w7 ⟨rfl, hb⟩
 refine ⟨_, rfl, ?_⟩
 replace BX := BX.call hb
 replace BY := BY.call hb
 replace BG := BG.call hb
 replace BP := BP.call hb
 replace HBd := bl_trans HBd hb
 refine hK.out _ _ ⟨BX, BY, BG, BP⟩ (fun hHeld => ?_)
 clear hK K hb
 refine norm_ (a' := ?_) ?_ ?_
 rotate_left
 ·show Act.put _ (some 47) _ = _
  simp only [Act.put, pA, pB, pC]
  rfl
 refine pu 19 48 (bq 21 1048575) ?_ ?_ (fun _ => ?_) ?_ ?_
 rotate_left 2
 ·go_simp
  with_reducible rfl
 ·simp only [Act.put, pA, pB, pC]
  rfl
 refine pu 20 8 (bq 21 2097151) ?_ ?_ (fun _ => ?_) ?_ ?_
 rotate_left 2
 ·go_simp
  with_reducible rfl
 ·simp only [Act.put, pA, pB, pC]
  rfl
 refine done_ (by as_aux_lemma => kernel_rfl) ?_
 clear hHeld
 go_wp2_with fail
 go_ret
 exact ⟨by first | rfl | simp, HBd⟩

set_option maxRecDepth 100000 in
set_option maxHeartbeats 16000000 in
theorem out_g (s0 : Int) (s1 : Bool) (s2 s3 : Int) (i0 : Bool) (i1 : Int) (i2 : Bool) (i3 i4 i5 : Int) (i6 : Bool) (i7 i8 : Int) (A : Option Addr) (n c : Nat) (xs : List Slc) (t0 : Int) (t1 : Bool) (t2 t3 : Int) (j0 : Bool) (j1 : Int) (j2 : Bool) (j3 j4 j5 : Int) (j6 : Bool) (j7 j8 : Int) (B : Option Addr) (m d : Nat) (ys : List Slc) (g0 : Int) (g1 : Bool) (g2 g3 : Int) (a0 : Bool) (a1 : Int) (a2 : Bool) (a3 a4 a5 : Int) (a6 : Bool) (a7 a8 : Int) (b0 : Bool) (b1 : Int) (b2 : Bool) (b3 b4 b5 : Int) (b6 : Bool) (b7 b8 : Int) (w : World) (hs : SlT w w.heap.size A n xs) (ht : SlT w w.heap.size B m ys) (wx : WfTb ⟨s0, s1, s2, s3⟩ ⟨i0, ⟨i1, i2, i3, i4⟩, ⟨i5, i6, i7, i8⟩⟩ xs) (wy : WfTb ⟨t0, t1, t2, t3⟩ ⟨j0, ⟨j1, j2, j3, j4⟩, ⟨j5, j6, j7, j8⟩⟩ ys) (wa : Wf ⟨a1, a2, a3, a4⟩) (wb : Wf ⟨b5, b6, b7, b8⟩) (ha : a0 = false) (hb0 : b0 = false) (hma : mayI ⟨a0, ⟨a1, a2, a3, a4⟩, ⟨a5, a6, a7, a8⟩⟩ = true) (hmb : mayI ⟨b0, ⟨b1, b2, b3, b4⟩, ⟨b5, b6, b7, b8⟩⟩ = true) (hn : ¬ cmpN (subN ⟨b5, b6, b7, b8⟩ ⟨a1, a2, a3, a4⟩ true) ⟨g0, g1, g2, g3⟩ < 0) (hm : movesP ⟨s0, s1, s2, s3⟩ ⟨i0, ⟨i1, i2, i3, i4⟩, ⟨i5, i6, i7, i8⟩⟩ xs ⟨a0, ⟨a1, a2, a3, a4⟩, ⟨a5, a6, a7, a8⟩⟩ ⟨b0, ⟨b1, b2, b3, b4⟩, ⟨b5, b6, b7, b8⟩⟩ = true) :
  Calls Tryz.prog 31 #[.agg #[.i s0, .b s1, .u s2, .i s3, .b i0, .i i1, .b i2, .u i3, .i i4, .i i5, .b i6, .u i7, .i i8, .slice A n c], .agg #[.i t0, .b t1, .u t2, .i t3, .b j0, .i j1, .b j2, .u j3, .i j4, .i j5, .b j6, .u j7, .i j8, .slice B m d], .agg #[.i g0, .b g1, .u g2, .i g3], .agg #[.b a0, .i a1, .b a2, .u a3, .i a4, .i a5, .b a6, .u a7, .i a8, .b b0, .i b1, .b b2, .u b3, .i b4, .i b5, .b b6, .u b7, .i b8]] w fun e w' => e = .returned (.b (decide (cmpN (subN ⟨b5, b6, b7, b8⟩ ⟨a1, a2, a3, a4⟩ true) ⟨g0, g1, g2, g3⟩ < 0) || movesP ⟨s0, s1, s2, s3⟩ ⟨i0, ⟨i1, i2, i3, i4⟩, ⟨i5, i6, i7, i8⟩⟩ xs ⟨a0, ⟨a1, a2, a3, a4⟩, ⟨a5, a6, a7, a8⟩⟩ ⟨b0, ⟨b1, b2, b3, b4⟩, ⟨b5, b6, b7, b8⟩⟩ || movesP ⟨t0, t1, t2, t3⟩ ⟨j0, ⟨j1, j2, j3, j4⟩, ⟨j5, j6, j7, j8⟩⟩ ys ⟨a0, ⟨a1, a2, a3, a4⟩, ⟨a5, a6, a7, a8⟩⟩ ⟨b0, ⟨b1, b2, b3, b4⟩, ⟨b5, b6, b7, b8⟩⟩)) ∧ Below w.heap.size w w' := by
 obtain ⟨W_, rfl, BX, BY, BG, BP, HBd⟩ := out_pre s0 s1 s2 s3 i0 i1 i2 i3 i4 i5 i6 i7 i8 A n c t0 t1 t2 t3 j0 j1 j2 j3 j4 j5 j6 j7 j8 B m d g0 g1 g2 g3 a0 a1 a2 a3 a4 a5 a6 a7 a8 b0 b1 b2 b3 b4 b5 b6 b7 b8 w
 have HMa := Lib.hid (fun W => mayI_calls a0 a1 a2 a3 a4 a5 a6 a7 a8 W)
 have HMb := Lib.hid (fun W => mayI_calls b0 b1 b2 b3 b4 b5 b6 b7 b8 W)
 rw [hma] at HMa
 rw [hmb] at HMb
 subst ha
 subst hb0
 have HS := (fun W => subN_calls b5 b6 b7 b8 a1 a2 a3 a4 true wb wa W)
 have HX := (fun W h => moves_calls s0 s1 s2 s3 i0 i1 i2 i3 i4 i5 i6 i7 i8 A n c xs false a1 a2 a3 a4 a5 a6 a7 a8 false b1 b2 b3 b4 b5 b6 b7 b8 W h wx)
 have HY := (fun W h => moves_calls t0 t1 t2 t3 j0 j1 j2 j3 j4 j5 j6 j7 j8 B m d ys false a1 a2 a3 a4 a5 a6 a7 a8 false b1 b2 b3 b4 b5 b6 b7 b8 W h wy)
 generalize movesP ⟨s0, s1, s2, s3⟩ ⟨i0, ⟨i1, i2, i3, i4⟩, ⟨i5, i6, i7, i8⟩⟩ xs ⟨false, ⟨a1, a2, a3, a4⟩, ⟨a5, a6, a7, a8⟩⟩ ⟨false, ⟨b1, b2, b3, b4⟩, ⟨b5, b6, b7, b8⟩⟩ = mx at HX hm ⊢
 generalize movesP ⟨t0, t1, t2, t3⟩ ⟨j0, ⟨j1, j2, j3, j4⟩, ⟨j5, j6, j7, j8⟩⟩ ys ⟨false, ⟨a1, a2, a3, a4⟩, ⟨a5, a6, a7, a8⟩⟩ ⟨false, ⟨b1, b2, b3, b4⟩, ⟨b5, b6, b7, b8⟩⟩ = my at HY ⊢
 generalize subN ⟨b5, b6, b7, b8⟩ ⟨a1, a2, a3, a4⟩ true = r at HS hn ⊢
 obtain ⟨r0, r1, r2, r3⟩ := r
 have HC := (fun W => cmpN_calls r0 r1 r2 r3 g0 g1 g2 g3 W)
 generalize cmpN ⟨r0, r1, r2, r3⟩ ⟨g0, g1, g2, g3⟩ = cc at HC hn ⊢
 dsimp only at HS HX HY HC ⊢
 replace HS := Lib.hid HS
 replace HX := Lib.hid HX
 replace HY := Lib.hid HY
 replace HC := Lib.hid HC
 clear wa wb wx wy
 subst hm
 have hdb : Hid (decide (cc < 0) = false) := decide_eq_false hn
 rw [hdb.out, Bool.false_or]
 clear hn
 go_enter Tryz.func31, Tryz.ntmps31
 go_wp2_with (first
  | (go_at_call 27; (with_reducible refine (HMa.out _).mono ?_); rintro e w1 ⟨rfl, hb⟩; replace BX := BX.call hb; replace BY := BY.call hb; replace BG := BG.call hb; replace BP := BP.call hb; replace HBd := bl_trans HBd hb; clear hb; obtain ⟨p0, p1, p2, p3, p4, p5, p6, p7, p8, p9, p10, p11, p12, p13, p14, p15, p16, p17⟩ := BP.c18)
  | (go_at_call 27; (with_reducible refine (HMb.out _).mono ?_); rintro e w2 ⟨rfl, hb⟩; replace BX := BX.call hb; replace BY := BY.call hb; replace BG := BG.call hb; replace BP := BP.call hb; replace HBd := bl_trans HBd hb; clear hb; obtain ⟨p0, p1, p2, p3, p4, p5, p6, p7, p8, p9, p10, p11, p12, p13, p14, p15, p16, p17⟩ := BP.c18))
 clear p0 p1 p2 p3 p4 p5 p6 p7 p8 p9 p10 p11 p12 p13 p14 p15 p16 p17
 replace BX := BX.drew
 replace BY := BY.drew
 replace BG := BG.drew
 replace BP := BP.drew
 replace HBd := bl_drew HBd
 refine start_ (n := 21) (S := fun w' => Blk w' w.heap.size 37 #[.i s0, .b s1, .u s2, .i s3, .b i0, .i i1, .b i2, .u i3, .i i4, .i i5, .b i6, .u i7, .i i8, .slice A n c] ∧ Blk w' (w.heap.size + 1) 37 #[.i t0, .b t1, .u t2, .i t3, .b j0, .i j1, .b j2, .u j3, .i j4, .i j5, .b j6, .u j7, .i j8, .slice B m d] ∧ Blk w' (w.heap.size + 2) 32 #[.i g0, .b g1, .u g2, .i g3] ∧ Blk w' (w.heap.size + 3) 41 #[.b false, .i a1, .b a2, .u a3, .i a4, .i a5, .b a6, .u a7, .i a8, .b false, .i b1, .b b2, .u b3, .i b4, .i b5, .b b6, .u b7, .i b8]) (ds := []) (bq 21 0) (by kernel_rfl) rfl rfl ⟨BX, BY, BG, BP⟩ (fun hHeld => ?_)
 generalize hWW : World.drew _ = w3 at BX BY BG BP HBd hHeld ⊢
 clear hWW
 refine pu 0 29 (bq 21 1) ?_ ?_ (fun _ => ?_) ?_ ?_
 rotate_left 2
 ·go_simp
  with_reducible rfl
 ·simp only [Act.put, pA, pB, pC]
  rfl
 refine pu 1 30 (bq 21 3) ?_ ?_ (fun _ => ?_) ?_ ?_
 rotate_left 2
 ·go_simp
  with_reducible rfl
 ·simp only [Act.put, pA, pB, pC]
  rfl
 refine tk 2 31 (bq 21 7) ?_ ?_ ?_ ?_ hHeld ?_
 rotate_left 2
 ·rintro w' ⟨s0_, s1_, s2_, s3_⟩
  obtain ⟨o0_, o1_, o2_, o3_, o4_, o5_, o6_, o7_, o8_, o9_, o10_, o11_, o12_, o13_, o14_, o15_, o16_, o17_⟩ := s3_.c18
  go_simp
  with_reducible rfl
 ·simp only [Act.put, pA, pB, pC]
  rfl
 refine pu 3 32 (bq 21 15) ?_ ?_ (fun _ => ?_) ?_ ?_
 rotate_left 2
 ·go_simp
  with_reducible rfl
 ·simp only [Act.put, pA, pB, pC]
  rfl
 refine pu 4 33 (bq 21 31) ?_ ?_ (fun _ => ?_) ?_ ?_
 rotate_left 2
 ·go_simp
  with_reducible rfl
 ·simp only [Act.put, pA, pB, pC]
  rfl
 refine tk 5 34 (bq 21 63) ?_ ?_ ?_ ?_ hHeld ?_
 rotate_left 2
 ·rintro w' ⟨s0_, s1_, s2_, s3_⟩
  obtain ⟨o0_, o1_, o2_, o3_, o4_, o5_, o6_, o7_, o8_, o9_, o10_, o11_, o12_, o13_, o14_, o15_, o16_, o17_⟩ := s3_.c18
  go_simp
  with_reducible rfl
 ·simp only [Act.put, pA, pB, pC]
  rfl
 refine tk 7 36 (bq 21 191) ?_ ?_ ?_ ?_ hHeld ?_
 rotate_left 2
 ·rintro w' ⟨s0_, s1_, s2_, s3_⟩
  obtain ⟨⟨o0_, o1_, o2_, o3_⟩, _⟩ := s2_.c4
  go_simp
  with_reducible rfl
 ·simp only [Act.put, pA, pB, pC]
  rfl
 refine on 6 35 (bq 21 255) (fun K hK => ?_)
 refine goes_ Tryz.func58 (by kernel_rfl) rfl #[.agg #[.i b5, .b b6, .u b7, .i b8], .agg #[.i a1, .b a2, .u a3, .i a4], .b true] (by first | rfl | go_simp) rfl rfl (by simp only [List.map_toArray, List.map_cons, List.map_nil] <;> rfl) ?_
 with_reducible refine (HS.out _).mono ?_
 rintro e w4 ⟨rfl, hb⟩
 refine ⟨_, rfl, ?_⟩
 replace BX := BX.call hb
 replace BY := BY.call hb
 replace BG := BG.call hb
 replace BP := BP.call hb
 replace HBd := bl_trans HBd hb
 refine hK.out _ _ ⟨BX, BY, BG, BP⟩ (fun hHeld => ?_)
 clear hK K hb
 refine norm_ (a' := ?_) ?_ ?_
 rotate_left
 ·show Act.put _ (some 35) _ = _
  simp only [Act.put, pA, pB, pC]
  rfl
 refine on 8 37 (bq 21 511) (fun K hK => ?_)
 refine goes_ Tryz.func28 (by kernel_rfl) rfl #[.agg #[.i r0, .b r1, .u r2, .i r3], .agg #[.i g0, .b g1, .u g2, .i g3]] (by first | rfl | go_simp) rfl rfl (by simp only [List.map_toArray, List.map_cons, List.map_nil] <;> rfl) ?_
 with_reducible refine (HC.out _).mono ?_
 rintro e w5 ⟨rfl, hb⟩
 refine ⟨_, rfl, ?_⟩
 replace BX := BX.call hb
 replace BY := BY.call hb
 replace BG := BG.call hb
 replace BP := BP.call hb
 replace HBd := bl_trans HBd hb
 refine hK.out _ _ ⟨BX, BY, BG, BP⟩ (fun hHeld => ?_)
 clear hK K hb
 refine norm_ (a' := ?_) ?_ ?_
 rotate_left
 ·show Act.put _ (some 37) _ = _
  simp only [Act.put, pA, pB, pC]
  rfl
 refine pu 9 38 (bq 21 1023) ?_ ?_ (fun _ => ?_) ?_ ?_
 rotate_left 2
 ·go_simp
  with_reducible rfl
 ·simp only [Act.put, pA, pB, pC]
  rfl
 try rw [hdb.out]
 refine pu 10 39 (bq 21 2047) ?_ ?_ (fun _ => ?_) ?_ ?_
 rotate_left 2
 ·go_simp
  with_reducible rfl
 ·simp only [Act.put, pA, pB, pC]
  rfl
 refine ta 11 40 (bq 21 4095) rfl (.agg #[.i s0, .b s1, .u s2, .i s3, .b i0, .i i1, .b i2, .u i3, .i i4, .i i5, .b i6, .u i7, .i i8, .slice A n c]) ?_ hHeld (yieldsIf_blk (by rfl) 37 (.tmp 4) rfl (w.heap.size) rfl #[.i s0, .b s1, .u s2, .i s3, .b i0, .i i1, .b i2, .u i3, .i i4, .i i5, .b i6, .u i7, .i i8, .slice A n c] _ (fun _ h => h.1) rfl Tryz.underlying37 (by kernel_rfl)) ?_ ?_
 rotate_left
 ·simp only [Act.put, pA, pB, pC]
  rfl
 refine ta 12 41 (bq 21 8191) rfl (.agg #[.b false, .i a1, .b a2, .u a3, .i a4, .i a5, .b a6, .u a7, .i a8, .b false, .i b1, .b b2, .u b3, .i b4, .i b5, .b b6, .u b7, .i b8]) ?_ hHeld (yieldsIf_blk (by rfl) 41 (.tmp 7) rfl (w.heap.size + 3) rfl #[.b false, .i a1, .b a2, .u a3, .i a4, .i a5, .b a6, .u a7, .i a8, .b false, .i b1, .b b2, .u b3, .i b4, .i b5, .b b6, .u b7, .i b8] _ (fun _ h => h.2.2.2) rfl Tryz.underlying41 (by kernel_rfl)) ?_ ?_
 rotate_left
 ·simp only [Act.put, pA, pB, pC]
  rfl
 refine on 13 42 (bq 21 16383) (fun K hK => ?_)
 refine goes_ Tryz.func59 (by kernel_rfl) rfl #[.agg #[.i s0, .b s1, .u s2, .i s3, .b i0, .i i1, .b i2, .u i3, .i i4, .i i5, .b i6, .u i7, .i i8, .slice A n c], .agg #[.b false, .i a1, .b a2, .u a3, .i a4, .i a5, .b a6, .u a7, .i a8, .b false, .i b1, .b b2, .u b3, .i b4, .i b5, .b b6, .u b7, .i b8]] (by first | rfl | go_simp) rfl rfl (by simp only [List.map_toArray, List.map_cons, List.map_nil] <;> rfl) ?_
 with_reducible refine (HX.out _ (hs.on HBd)).mono ?_
 rintro e w6 ⟨rfl, hb⟩
 refine ⟨_, rfl, ?_⟩
 replace BX := BX.call hb
 replace BY := BY.call hb
 replace BG := BG.call hb
 replace BP := BP.call hb
 replace HBd := bl_trans HBd hb
 refine hK.out _ _ ⟨BX, BY, BG, BP⟩ (fun hHeld => ?_)
 clear hK K hb
 refine norm_ (a' := ?_) ?_ ?_
 rotate_left
 ·show Act.put _ (some 42) _ = _
  simp only [Act.put, pA, pB, pC]
  rfl
 refine pu 14 43 (bq 21 32767) ?_ ?_ (fun _ => ?_) ?_ ?_
 rotate_left 2
 ·go_simp
  with_reducible rfl
 ·simp only [Act.put, pA, pB, pC]
  rfl
 refine pu 15 44 (bq 21 65535) ?_ ?_ (fun _ => ?_) ?_ ?_
 rotate_left 2
 ·go_simp
  with_reducible rfl
 ·simp only [Act.put, pA, pB, pC]
  rfl
 refine po 16 45 (bq 21 131071) ?_ ?_ ?_
 rotate_left
 ·simp only [Act.put, pA, pB, pC]
  rfl
 refine po 17 46 (bq 21 262143) ?_ ?_ ?_
 rotate_left
 ·simp only [Act.put, pA, pB, pC]
  rfl
 refine po 18 47 (bq 21 524287) ?_ ?_ ?_
 rotate_left
 ·simp only [Act.put, pA, pB, pC]
  rfl
 refine pu 19 48 (bq 21 1048575) ?_ ?_ (fun _ => ?_) ?_ ?_
 rotate_left 2
 ·go_simp
  with_reducible rfl
 ·simp only [Act.put, pA, pB, pC]
  rfl
 refine pu 20 8 (bq 21 2097151) ?_ ?_ (fun _ => ?_) ?_ ?_
 rotate_left 2
 ·go_simp
  with_reducible rfl
 ·simp only [Act.put, pA, pB, pC]
  rfl
 refine done_ (by as_aux_lemma => kernel_rfl) ?_
 clear hHeld
 go_wp2_with fail
 go_ret
 exact ⟨by first | rfl | simp, HBd⟩

theorem out_calls (s0 : Int) (s1 : Bool) (s2 s3 : Int) (i0 : Bool) (i1 : Int) (i2 : Bool) (i3 i4 i5 : Int) (i6 : Bool) (i7 i8 : Int) (A : Option Addr) (n c : Nat) (xs : List Slc) (t0 : Int) (t1 : Bool) (t2 t3 : Int) (j0 : Bool) (j1 : Int) (j2 : Bool) (j3 j4 j5 : Int) (j6 : Bool) (j7 j8 : Int) (B : Option Addr) (m d : Nat) (ys : List Slc) (g0 : Int) (g1 : Bool) (g2 g3 : Int) (a0 : Bool) (a1 : Int) (a2 : Bool) (a3 a4 a5 : Int) (a6 : Bool) (a7 a8 : Int) (b0 : Bool) (b1 : Int) (b2 : Bool) (b3 b4 b5 : Int) (b6 : Bool) (b7 b8 : Int) (w : World) (hs : SlT w w.heap.size A n xs) (ht : SlT w w.heap.size B m ys) (wx : WfTb ⟨s0, s1, s2, s3⟩ ⟨i0, ⟨i1, i2, i3, i4⟩, ⟨i5, i6, i7, i8⟩⟩ xs) (wy : WfTb ⟨t0, t1, t2, t3⟩ ⟨j0, ⟨j1, j2, j3, j4⟩, ⟨j5, j6, j7, j8⟩⟩ ys) (wa : Wf ⟨a1, a2, a3, a4⟩) (wb : Wf ⟨b5, b6, b7, b8⟩) :
  Calls Tryz.prog 31 #[.agg #[.i s0, .b s1, .u s2, .i s3, .b i0, .i i1, .b i2, .u i3, .i i4, .i i5, .b i6, .u i7, .i i8, .slice A n c], .agg #[.i t0, .b t1, .u t2, .i t3, .b j0, .i j1, .b j2, .u j3, .i j4, .i j5, .b j6, .u j7, .i j8, .slice B m d], .agg #[.i g0, .b g1, .u g2, .i g3], .agg #[.b a0, .i a1, .b a2, .u a3, .i a4, .i a5, .b a6, .u a7, .i a8, .b b0, .i b1, .b b2, .u b3, .i b4, .i b5, .b b6, .u b7, .i b8]] w fun e w' => e = .returned (.b (outP ⟨s0, s1, s2, s3⟩ ⟨i0, ⟨i1, i2, i3, i4⟩, ⟨i5, i6, i7, i8⟩⟩ xs ⟨t0, t1, t2, t3⟩ ⟨j0, ⟨j1, j2, j3, j4⟩, ⟨j5, j6, j7, j8⟩⟩ ys ⟨g0, g1, g2, g3⟩ ⟨a0, ⟨a1, a2, a3, a4⟩, ⟨a5, a6, a7, a8⟩⟩ ⟨b0, ⟨b1, b2, b3, b4⟩, ⟨b5, b6, b7, b8⟩⟩)) ∧ Below w.heap.size w w' := by
 unfold outP
 dsimp only
 by_cases ha : a0 = true
 ·rw [if_pos (by rw [ha]; rfl)]; exact out_a s0 s1 s2 s3 i0 i1 i2 i3 i4 i5 i6 i7 i8 A n c xs t0 t1 t2 t3 j0 j1 j2 j3 j4 j5 j6 j7 j8 B m d ys g0 g1 g2 g3 a0 a1 a2 a3 a4 a5 a6 a7 a8 b0 b1 b2 b3 b4 b5 b6 b7 b8 w ha
 by_cases hb : b0 = true
 ·rw [if_pos (by rw [hb]; simp)]; exact out_b s0 s1 s2 s3 i0 i1 i2 i3 i4 i5 i6 i7 i8 A n c xs t0 t1 t2 t3 j0 j1 j2 j3 j4 j5 j6 j7 j8 B m d ys g0 g1 g2 g3 a0 a1 a2 a3 a4 a5 a6 a7 a8 b0 b1 b2 b3 b4 b5 b6 b7 b8 w (by simpa using ha) hb
 replace ha : a0 = false := by simpa using ha
 replace hb : b0 = false := by simpa using hb
 by_cases hma : mayI ⟨a0, ⟨a1, a2, a3, a4⟩, ⟨a5, a6, a7, a8⟩⟩ = true
 rotate_left
 ·replace hma : mayI ⟨a0, ⟨a1, a2, a3, a4⟩, ⟨a5, a6, a7, a8⟩⟩ = false := by simpa using hma
  rw [if_pos (by rw [hma]; simp)]; exact out_c s0 s1 s2 s3 i0 i1 i2 i3 i4 i5 i6 i7 i8 A n c xs t0 t1 t2 t3 j0 j1 j2 j3 j4 j5 j6 j7 j8 B m d ys g0 g1 g2 g3 a0 a1 a2 a3 a4 a5 a6 a7 a8 b0 b1 b2 b3 b4 b5 b6 b7 b8 w ha hb hma
 by_cases hmb : mayI ⟨b0, ⟨b1, b2, b3, b4⟩, ⟨b5, b6, b7, b8⟩⟩ = true
 rotate_left
 ·replace hmb : mayI ⟨b0, ⟨b1, b2, b3, b4⟩, ⟨b5, b6, b7, b8⟩⟩ = false := by simpa using hmb
  rw [if_pos (by rw [hmb]; simp)]; exact out_d s0 s1 s2 s3 i0 i1 i2 i3 i4 i5 i6 i7 i8 A n c xs t0 t1 t2 t3 j0 j1 j2 j3 j4 j5 j6 j7 j8 B m d ys g0 g1 g2 g3 a0 a1 a2 a3 a4 a5 a6 a7 a8 b0 b1 b2 b3 b4 b5 b6 b7 b8 w ha hb hma hmb
 rw [if_neg (by rw [hma, hmb, ha, hb]; simp)]
 by_cases hn : cmpN (subN ⟨b5, b6, b7, b8⟩ ⟨a1, a2, a3, a4⟩ true) ⟨g0, g1, g2, g3⟩ < 0
 ·exact out_e s0 s1 s2 s3 i0 i1 i2 i3 i4 i5 i6 i7 i8 A n c xs t0 t1 t2 t3 j0 j1 j2 j3 j4 j5 j6 j7 j8 B m d ys g0 g1 g2 g3 a0 a1 a2 a3 a4 a5 a6 a7 a8 b0 b1 b2 b3 b4 b5 b6 b7 b8 w hs ht wx wy wa wb ha hb hma hmb hn
 by_cases hm : movesP ⟨s0, s1, s2, s3⟩ ⟨i0, ⟨i1, i2, i3, i4⟩, ⟨i5, i6, i7, i8⟩⟩ xs ⟨a0, ⟨a1, a2, a3, a4⟩, ⟨a5, a6, a7, a8⟩⟩ ⟨b0, ⟨b1, b2, b3, b4⟩, ⟨b5, b6, b7, b8⟩⟩ = true
 ·exact out_g s0 s1 s2 s3 i0 i1 i2 i3 i4 i5 i6 i7 i8 A n c xs t0 t1 t2 t3 j0 j1 j2 j3 j4 j5 j6 j7 j8 B m d ys g0 g1 g2 g3 a0 a1 a2 a3 a4 a5 a6 a7 a8 b0 b1 b2 b3 b4 b5 b6 b7 b8 w hs ht wx wy wa wb ha hb hma hmb hn hm
 ·exact out_f s0 s1 s2 s3 i0 i1 i2 i3 i4 i5 i6 i7 i8 A n c xs t0 t1 t2 t3 j0 j1 j2 j3 j4 j5 j6 j7 j8 B m d ys g0 g1 g2 g3 a0 a1 a2 a3 a4 a5 a6 a7 a8 b0 b1 b2 b3 b4 b5 b6 b7 b8 w hs ht wx wy wa wb ha hb hma hmb hn (by simpa using hm)
end Go.Proofs.YteabdeohhmbclaaGreat.Wk
