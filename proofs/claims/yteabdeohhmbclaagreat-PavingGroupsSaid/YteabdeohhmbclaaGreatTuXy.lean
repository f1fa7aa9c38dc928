/- Tubes: their cells, slices of slices; tube.finite, tube.May. -/
import Derived.Test.YteabdeohhmbclaaGreatIvYy
import Derived.Test.YteabdeohhmbclaaGreatBsAy
import Derived.Deep.MidRow
import Derived.Laws.Rows
import Derived.Laws.Tables
namespace Go.Proofs.YteabdeohhmbclaaGreat.Wk
open Go.RowKit Go.Proofs.Pl Go.Proofs.YteabdeohhmbclaaGreatW.PrintLast
set_option linter.unusedSimpArgs false
set_option linter.unusedVariables false

theorem ret_boolC {a b : Bool} (h : a = b) : Ending.returned (.b a) = Ending.returned (.b b) := by rw [h]
theorem Blk.at_ {w : World} {g : Nat} {t : TypeId} {cs : Array Value} {u : Value} (h : Blk w g t cs) (i : Nat) (hu : cs[i]? = some u) : w.cell? ⟨g, i, none⟩ = some u := (h.cell i).trans hu
theorem bl_setRow {w W : World} {B g : Nat} (h : Below B w W) (hg : B ≤ g) (cs : Array Value) : Below B w (W.setRow g cs) :=
  ⟨h.os, h.tape, h.output, by have := h.size; simpa [World.setRow] using this, fun k hk => (setRow_other W g k cs (by omega)).trans (h.block k hk)⟩
structure Slc where
  e : Num
  a : Iv
  o : Iv
structure Tb where
  s : Num
  i : Iv
  l : List Slc
def slcCells (x : Slc) : List Value := [.i x.e.k, .b x.e.n, .u x.e.m, .i x.e.e, .b x.a.emp, .i x.a.lo.k, .b x.a.lo.n, .u x.a.lo.m, .i x.a.lo.e, .i x.a.hi.k, .b x.a.hi.n, .u x.a.hi.m, .i x.a.hi.e, .b x.o.emp, .i x.o.lo.k, .b x.o.lo.n, .u x.o.lo.m, .i x.o.lo.e, .i x.o.hi.k, .b x.o.hi.n, .u x.o.hi.m, .i x.o.hi.e]
def whenN (x : Num) : Bool := mayN x && (x.k != 2)
def maySl : Num → List Slc → Bool
  | _, [] => true
  | last, s :: l => whenN s.e && decide (0 < cmpN s.e last) && mayI s.a && mayI s.o && maySl s.e l
def mayT (t : Tb) : Bool := whenN t.s && mayI t.i && decide (t.l.length ≤ 64) && maySl t.s t.l
def SlT (w : World) (B : Nat) (A : Option Addr) (n : Nat) (xs : List Slc) : Prop :=
  xs.length = n ∧ (0 < n → ∃ b off, A = some ⟨b, off, none⟩ ∧ b < B ∧ ∀ (i : Nat) (x : Slc), xs[i]? = some x → ∀ (j : Nat) (u : Value), (slcCells x)[j]? = some u → w.cell? ⟨b, off + i * 22 + j, none⟩ = some u)
section
variable {w w' : World} {B B' n : Nat} {A : Option Addr} {xs : List Slc}
theorem SlT.keep (h : SlT w B A n xs) (hk : ∀ b o, b < B → w'.cell? ⟨b, o, none⟩ = w.cell? ⟨b, o, none⟩) : SlT w' B A n xs :=
  ⟨h.1, fun hn => by
    obtain ⟨b, off, e, hb, hc⟩ := h.2 hn
    exact ⟨b, off, e, hb, fun i x hx j u hu => (hk b _ hb).trans (hc i x hx j u hu)⟩⟩
theorem SlT.below (h : SlT w B A n xs) (hb : Below B w w') : SlT w' B A n xs := h.keep fun b o hlt => hb.cell (p := ⟨b, o, none⟩) hlt
theorem SlT.more (h : SlT w B A n xs) (hB : B ≤ B') : SlT w B' A n xs := ⟨h.1, fun hn => by obtain ⟨b, off, e, hb, hc⟩ := h.2 hn; exact ⟨b, off, e, by omega, hc⟩⟩
theorem SlT.on (h : SlT w w.heap.size A n xs) (hb : Below w.heap.size w w') : SlT w' w'.heap.size A n xs := (h.below hb).more hb.size
end
section
variable {ops : Array Oper} {rest : List Oper} {o : Oper} {a : Act} {Q : Exit → Act → World → Prop} {W : World}
theorem wpList_storeT (hgd : o.guard = none) (ty : TypeId) (p q : Operand) (ho : o.op = .store ty p q) (g : Nat) (zs cs : Array Value) (hB : Blk W g ty zs) (hp : a.eval p = .pointer (some ⟨g, 0, none⟩)) (hq : a.eval q = .agg cs) (hi : (Tryz.prog.info? ty).map (·.size) = some cs.size) (hz : zs.size = cs.size) (h1 : cs.all (·.oneCell') = true)
    (h : ∀ W1, Blk W1 g ty cs → (∀ k t ds, k ≠ g → Blk W k t ds → Blk W1 k t ds) → (∀ B w, B ≤ g → Below B w W → Below B w W1) → wpList Tryz.prog ops Q rest (a.put o.dst undef) W1) : wpList Tryz.prog ops Q (o :: rest) a W :=
  wpList_store_row hgd ty p q ho g cs hp hq ty zs hB hi hz h1
    (h _ (setRow_heap _ g _ cs ty (0, 0) hB) (fun k t ds hk hb => (setRow_other W g k cs hk).trans hb) fun B w hg hb => bl_setRow hb hg cs)
theorem wpList_loadT (hgd : o.guard = none) (p : Operand) (ho : o.op = .load 62 p) (b off : Nat) (hp : a.eval p = .pointer (some ⟨b, off, none⟩)) (x : Slc) (hr : World.rangeAt W b off (slcCells x))
    (h : wpList Tryz.prog ops Q rest (a.put o.dst (.agg (slcCells x).toArray)) W) : wpList Tryz.prog ops Q (o :: rest) a W :=
  wpList_load_mid hgd 62 p ho b off hp (slcCells x) _ hr Tryz.underlying62 rfl (by kernel_rfl) h
end
theorem slc_one (x : Slc) : (slcCells x).toArray.all (·.oneCell') = true := by simp [slcCells, Value.oneCell']
theorem maySl_cons {last : Num} {xs : List Slc} {k : Nat} {x : Slc} (h : xs[k]? = some x) : maySl last (xs.drop k) = (whenN x.e && decide (0 < cmpN x.e last) && mayI x.a && mayI x.o && maySl x.e (xs.drop (k + 1))) := by
  obtain ⟨hk, e⟩ := List.getElem?_eq_some_iff.1 h
  rw [List.drop_eq_getElem_cons hk, e, maySl]

set_option maxRecDepth 100000 in
set_option maxHeartbeats 2000000 in
theorem finite_calls (a0 : Int) (a1 : Bool) (a2 a3 : Int) (w : World) :
    Calls Tryz.prog 26 #[.agg #[.i a0, .b a1, .u a2, .i a3]] w fun e w' => e = .returned (.b (whenN ⟨a0, a1, a2, a3⟩)) ∧ Below w.heap.size w w' := by
  unfold whenN
  have HN := Lib.hid (fun W => mayN_calls a0 a1 a2 a3 W)
  generalize mayN ⟨a0, a1, a2, a3⟩ = m at HN ⊢
  go_enter Tryz.func26, Tryz.ntmps26
  go_wp2_with (go_at_call 53; (with_reducible refine (HN.out _).mono ?_); rintro e w1 ⟨rfl, hb⟩; have BX1 := (Blk.new w _ _).call hb; have HL1 := bl_trans (bl_alloc (Below.refl w.heap.size w) _) hb; obtain ⟨⟨q0, q1, q2, q3⟩, _⟩ := BX1.c4; clear hb HN)
  all_goals go_ret
  all_goals refine ⟨?_, HL1⟩
  all_goals first
    | rfl
    | (refine ret_boolC ?_; simp_all; done)
theorem finiteX_calls (x : Num) (w : World) : Calls Tryz.prog 26 #[.agg #[.i (x).k, .b (x).n, .u (x).m, .i (x).e]] w fun e w' => e = .returned (.b (whenN x)) ∧ Below w.heap.size w w' := by
  obtain ⟨a0, a1, a2, a3⟩ := x
  exact finite_calls a0 a1 a2 a3 w
theorem mayIX_calls (x : Iv) (w : World) : Calls Tryz.prog 27 #[.agg #[.b (x).emp, .i ((x).lo).k, .b ((x).lo).n, .u ((x).lo).m, .i ((x).lo).e, .i ((x).hi).k, .b ((x).hi).n, .u ((x).hi).m, .i ((x).hi).e]] w fun e w' => e = .returned (.b (mayI x)) ∧ Below w.heap.size w w' := by
  obtain ⟨a0, ⟨a1, a2, a3, a4⟩, ⟨a5, a6, a7, a8⟩⟩ := x
  exact mayI_calls a0 a1 a2 a3 a4 a5 a6 a7 a8 w
theorem cmpX_calls (x y : Num) (w : World) : Calls Tryz.prog 28 #[.agg #[.i (x).k, .b (x).n, .u (x).m, .i (x).e], .agg #[.i (y).k, .b (y).n, .u (y).m, .i (y).e]] w fun e w' => e = .returned (.i (cmpN x y)) ∧ Below w.heap.size w w' := by
  obtain ⟨a0, a1, a2, a3⟩ := x
  obtain ⟨b0, b1, b2, b3⟩ := y
  exact cmpN_calls a0 a1 a2 a3 b0 b1 b2 b3 w
theorem drop_end {xs : List Slc} {n : Nat} {last : Num} (h : xs.length = n) : maySl last (xs.drop n) = true := by
  rw [List.drop_of_length_le (by omega), maySl]

set_option maxRecDepth 100000 in
set_option maxHeartbeats 8000000 in
theorem tmay_calls (s0 : Int) (s1 : Bool) (s2 s3 : Int) (i0 : Bool) (i1 : Int) (i2 : Bool) (i3 i4 i5 : Int) (i6 : Bool) (i7 i8 : Int) (A : Option Addr) (n c : Nat) (xs : List Slc) (w : World) (hs : SlT w w.heap.size A n xs) :
    Calls Tryz.prog 14 #[.agg #[.i s0, .b s1, .u s2, .i s3, .b i0, .i i1, .b i2, .u i3, .i i4, .i i5, .b i6, .u i7, .i i8, .slice A n c]] w fun e w' => e = .returned (.b (mayT ⟨⟨s0, s1, s2, s3⟩, ⟨i0, ⟨i1, i2, i3, i4⟩, ⟨i5, i6, i7, i8⟩⟩, xs⟩)) ∧ Below w.heap.size w w' := by
  unfold mayT
  dsimp only
  rw [show xs.length = n from hs.1]
  have HN := Lib.hid (fun W => finite_calls s0 s1 s2 s3 W)
  have HA := Lib.hid (fun W => mayI_calls i0 i1 i2 i3 i4 i5 i6 i7 i8 W)
  generalize whenN ⟨s0, s1, s2, s3⟩ = m1 at HN ⊢
  generalize mayI ⟨i0, ⟨i1, i2, i3, i4⟩, ⟨i5, i6, i7, i8⟩⟩ = m2 at HA ⊢
  have HL0 := bl_alloc (Below.refl w.heap.size w) (.cells #[.i s0, .b s1, .u s2, .i s3, .b i0, .i i1, .b i2, .u i3, .i i4, .i i5, .b i6, .u i7, .i i8, .slice A n c] 37)
  have BT0 := Blk.new w 37 #[.i s0, .b s1, .u s2, .i s3, .b i0, .i i1, .b i2, .u i3, .i i4, .i i5, .b i6, .u i7, .i i8, .slice A n c]
  cases m1
  · go_enter Tryz.func14, Tryz.ntmps14
    go_wp2_with (first
    | (go_at_call 26; (with_reducible refine (HN.out _).mono ?_); rintro e w1 ⟨rfl, hb⟩; have HL1 := bl_trans HL0 hb; have BT1 := BT0.call hb; have t0 := BT1.at_ 0 (u := .i s0) rfl; have t1 := BT1.at_ 1 (u := .b s1) rfl; have t2 := BT1.at_ 2 (u := .u s2) rfl; have t3 := BT1.at_ 3 (u := .i s3) rfl; have t4 := BT1.at_ 4 (u := .b i0) rfl; have t5 := BT1.at_ 5 (u := .i i1) rfl; have t6 := BT1.at_ 6 (u := .b i2) rfl; have t7 := BT1.at_ 7 (u := .u i3) rfl; have t8 := BT1.at_ 8 (u := .i i4) rfl; have t9 := BT1.at_ 9 (u := .i i5) rfl; have t10 := BT1.at_ 10 (u := .b i6) rfl; have t11 := BT1.at_ 11 (u := .u i7) rfl; have t12 := BT1.at_ 12 (u := .i i8) rfl; have t13 := BT1.at_ 13 (u := .slice A n c) rfl; clear hb HN)
    | (go_at_call 27; (with_reducible refine (HA.out _).mono ?_); rintro e w2 ⟨rfl, hb⟩; have HL2 := bl_trans HL1 hb; have BT2 := BT1.call hb; have hg3 : w.heap.size < w2.heap.size := Blk.lt BT2; clear t0 t1 t2 t3 t4 t5 t6 t7 t8 t9 t10 t11 t12 t13; have t0 := BT2.at_ 0 (u := .i s0) rfl; have t1 := BT2.at_ 1 (u := .b s1) rfl; have t2 := BT2.at_ 2 (u := .u s2) rfl; have t3 := BT2.at_ 3 (u := .i s3) rfl; have t4 := BT2.at_ 4 (u := .b i0) rfl; have t5 := BT2.at_ 5 (u := .i i1) rfl; have t6 := BT2.at_ 6 (u := .b i2) rfl; have t7 := BT2.at_ 7 (u := .u i3) rfl; have t8 := BT2.at_ 8 (u := .i i4) rfl; have t9 := BT2.at_ 9 (u := .i i5) rfl; have t10 := BT2.at_ 10 (u := .b i6) rfl; have t11 := BT2.at_ 11 (u := .u i7) rfl; have t12 := BT2.at_ 12 (u := .i i8) rfl; have t13 := BT2.at_ 13 (u := .slice A n c) rfl; clear hb HA))
    go_ret
    exact ⟨ret_boolC (by simp), HL1⟩
  cases m2
  · go_enter Tryz.func14, Tryz.ntmps14
    go_wp2_with (first
    | (go_at_call 26; (with_reducible refine (HN.out _).mono ?_); rintro e w1 ⟨rfl, hb⟩; have HL1 := bl_trans HL0 hb; have BT1 := BT0.call hb; have t0 := BT1.at_ 0 (u := .i s0) rfl; have t1 := BT1.at_ 1 (u := .b s1) rfl; have t2 := BT1.at_ 2 (u := .u s2) rfl; have t3 := BT1.at_ 3 (u := .i s3) rfl; have t4 := BT1.at_ 4 (u := .b i0) rfl; have t5 := BT1.at_ 5 (u := .i i1) rfl; have t6 := BT1.at_ 6 (u := .b i2) rfl; have t7 := BT1.at_ 7 (u := .u i3) rfl; have t8 := BT1.at_ 8 (u := .i i4) rfl; have t9 := BT1.at_ 9 (u := .i i5) rfl; have t10 := BT1.at_ 10 (u := .b i6) rfl; have t11 := BT1.at_ 11 (u := .u i7) rfl; have t12 := BT1.at_ 12 (u := .i i8) rfl; have t13 := BT1.at_ 13 (u := .slice A n c) rfl; clear hb HN)
    | (go_at_call 27; (with_reducible refine (HA.out _).mono ?_); rintro e w2 ⟨rfl, hb⟩; have HL2 := bl_trans HL1 hb; have BT2 := BT1.call hb; have hg3 : w.heap.size < w2.heap.size := Blk.lt BT2; clear t0 t1 t2 t3 t4 t5 t6 t7 t8 t9 t10 t11 t12 t13; have t0 := BT2.at_ 0 (u := .i s0) rfl; have t1 := BT2.at_ 1 (u := .b s1) rfl; have t2 := BT2.at_ 2 (u := .u s2) rfl; have t3 := BT2.at_ 3 (u := .i s3) rfl; have t4 := BT2.at_ 4 (u := .b i0) rfl; have t5 := BT2.at_ 5 (u := .i i1) rfl; have t6 := BT2.at_ 6 (u := .b i2) rfl; have t7 := BT2.at_ 7 (u := .u i3) rfl; have t8 := BT2.at_ 8 (u := .i i4) rfl; have t9 := BT2.at_ 9 (u := .i i5) rfl; have t10 := BT2.at_ 10 (u := .b i6) rfl; have t11 := BT2.at_ 11 (u := .u i7) rfl; have t12 := BT2.at_ 12 (u := .i i8) rfl; have t13 := BT2.at_ 13 (u := .slice A n c) rfl; clear hb HA))
    go_ret
    exact ⟨ret_boolC (by simp), HL2⟩
  by_cases h64 : n ≤ 64
  rotate_left
  · have h64' : (64 : Int) < (n : Int) := by omega
    go_enter Tryz.func14, Tryz.ntmps14
    go_wp2_with (first
    | (go_at_call 26; (with_reducible refine (HN.out _).mono ?_); rintro e w1 ⟨rfl, hb⟩; have HL1 := bl_trans HL0 hb; have BT1 := BT0.call hb; have t0 := BT1.at_ 0 (u := .i s0) rfl; have t1 := BT1.at_ 1 (u := .b s1) rfl; have t2 := BT1.at_ 2 (u := .u s2) rfl; have t3 := BT1.at_ 3 (u := .i s3) rfl; have t4 := BT1.at_ 4 (u := .b i0) rfl; have t5 := BT1.at_ 5 (u := .i i1) rfl; have t6 := BT1.at_ 6 (u := .b i2) rfl; have t7 := BT1.at_ 7 (u := .u i3) rfl; have t8 := BT1.at_ 8 (u := .i i4) rfl; have t9 := BT1.at_ 9 (u := .i i5) rfl; have t10 := BT1.at_ 10 (u := .b i6) rfl; have t11 := BT1.at_ 11 (u := .u i7) rfl; have t12 := BT1.at_ 12 (u := .i i8) rfl; have t13 := BT1.at_ 13 (u := .slice A n c) rfl; clear hb HN)
    | (go_at_call 27; (with_reducible refine (HA.out _).mono ?_); rintro e w2 ⟨rfl, hb⟩; have HL2 := bl_trans HL1 hb; have BT2 := BT1.call hb; have hg3 : w.heap.size < w2.heap.size := Blk.lt BT2; clear t0 t1 t2 t3 t4 t5 t6 t7 t8 t9 t10 t11 t12 t13; have t0 := BT2.at_ 0 (u := .i s0) rfl; have t1 := BT2.at_ 1 (u := .b s1) rfl; have t2 := BT2.at_ 2 (u := .u s2) rfl; have t3 := BT2.at_ 3 (u := .i s3) rfl; have t4 := BT2.at_ 4 (u := .b i0) rfl; have t5 := BT2.at_ 5 (u := .i i1) rfl; have t6 := BT2.at_ 6 (u := .b i2) rfl; have t7 := BT2.at_ 7 (u := .u i3) rfl; have t8 := BT2.at_ 8 (u := .i i4) rfl; have t9 := BT2.at_ 9 (u := .i i5) rfl; have t10 := BT2.at_ 10 (u := .b i6) rfl; have t11 := BT2.at_ 11 (u := .u i7) rfl; have t12 := BT2.at_ 12 (u := .i i8) rfl; have t13 := BT2.at_ 13 (u := .slice A n c) rfl; clear hb HA))
    go_ret
    exact ⟨ret_boolC (by simp [h64]), HL2⟩
  have h64' : ¬ (64 : Int) < (n : Int) := by omega
  rw [decide_eq_true h64]
  simp only [Bool.and_true, Bool.true_and]
  go_enter Tryz.func14, Tryz.ntmps14
  go_wp2_with (first
    | (go_at_call 26; (with_reducible refine (HN.out _).mono ?_); rintro e w1 ⟨rfl, hb⟩; have HL1 := bl_trans HL0 hb; have BT1 := BT0.call hb; have t0 := BT1.at_ 0 (u := .i s0) rfl; have t1 := BT1.at_ 1 (u := .b s1) rfl; have t2 := BT1.at_ 2 (u := .u s2) rfl; have t3 := BT1.at_ 3 (u := .i s3) rfl; have t4 := BT1.at_ 4 (u := .b i0) rfl; have t5 := BT1.at_ 5 (u := .i i1) rfl; have t6 := BT1.at_ 6 (u := .b i2) rfl; have t7 := BT1.at_ 7 (u := .u i3) rfl; have t8 := BT1.at_ 8 (u := .i i4) rfl; have t9 := BT1.at_ 9 (u := .i i5) rfl; have t10 := BT1.at_ 10 (u := .b i6) rfl; have t11 := BT1.at_ 11 (u := .u i7) rfl; have t12 := BT1.at_ 12 (u := .i i8) rfl; have t13 := BT1.at_ 13 (u := .slice A n c) rfl; clear hb HN)
    | (go_at_call 27; (with_reducible refine (HA.out _).mono ?_); rintro e w2 ⟨rfl, hb⟩; have HL2 := bl_trans HL1 hb; have BT2 := BT1.call hb; have hg3 : w.heap.size < w2.heap.size := Blk.lt BT2; clear t0 t1 t2 t3 t4 t5 t6 t7 t8 t9 t10 t11 t12 t13; have t0 := BT2.at_ 0 (u := .i s0) rfl; have t1 := BT2.at_ 1 (u := .b s1) rfl; have t2 := BT2.at_ 2 (u := .u s2) rfl; have t3 := BT2.at_ 3 (u := .i s3) rfl; have t4 := BT2.at_ 4 (u := .b i0) rfl; have t5 := BT2.at_ 5 (u := .i i1) rfl; have t6 := BT2.at_ 6 (u := .b i2) rfl; have t7 := BT2.at_ 7 (u := .u i3) rfl; have t8 := BT2.at_ 8 (u := .i i4) rfl; have t9 := BT2.at_ 9 (u := .i i5) rfl; have t10 := BT2.at_ 10 (u := .b i6) rfl; have t11 := BT2.at_ 11 (u := .u i7) rfl; have t12 := BT2.at_ 12 (u := .i i8) rfl; have t13 := BT2.at_ 13 (u := .slice A n c) rfl; clear hb HA))
  have HL3 := bl_alloc HL2 (.cells #[.i s0, .b s1, .u s2, .i s3] 32)
  have BL3 := Blk.new w2 32 #[.i s0, .b s1, .u s2, .i s3]
  have BT3 := BT2.alloc (.cells #[.i s0, .b s1, .u s2, .i s3] 32)
  clear t0 t1 t2 t3 t4 t5 t6 t7 t8 t9 t10 t11 t12 t13
  generalize w2.heap.size = g at BL3 hg3 ⊢
  go_loopw [27] (fun i wr => ∃ k : Nat, ∃ last : Num, k ≤ n ∧ i = .i k ∧ maySl last (xs.drop k) = maySl ⟨s0, s1, s2, s3⟩ xs ∧ Blk wr g 32 #[.i last.k, .b last.n, .u last.m, .i last.e] ∧ Blk wr w.heap.size 37 #[.i s0, .b s1, .u s2, .i s3, .b i0, .i i1, .b i2, .u i3, .i i4, .i i5, .b i6, .u i7, .i i8, .slice A n c] ∧ Below w.heap.size w wr) (fun i _ => n - (intOf i).toNat)
  case atStart => exact ⟨0, ⟨s0, s1, s2, s3⟩, Nat.zero_le _, rfl, rfl, BL3, BT3, HL3⟩
  case round =>
    obtain ⟨k, last, hk, rfl, hms, BL, BT, HB⟩ := hrel
    have hbs : w.heap.size ≤ wr.heap.size := HB.size
    by_cases hlt : k < n
    · obtain ⟨b, off, rfl, hbB, hcc⟩ := hs.2 (by omega)
      obtain ⟨x, hx⟩ : ∃ x, xs[k]? = some x := ⟨_, List.getElem?_eq_getElem (show k < xs.length by have := hs.1; omega)⟩
      have hcx := hcc k _ hx
      have hrg : World.rangeAt wr b (off + k * 22) (slcCells x) := fun j u hu => (HB.cell (p := ⟨b, _, none⟩) hbB).trans (hcx j u hu)
      rw [maySl_cons hx] at hms
      have HF := Lib.hid (fun W => finiteX_calls x.e W)
      have HC := Lib.hid (fun W => cmpX_calls x.e last W)
      have HA2 := Lib.hid (fun W => mayIX_calls x.a W)
      have HO2 := Lib.hid (fun W => mayIX_calls x.o W)
      have hgl : g < wr.heap.size := Blk.lt BL
      have hgt : w.heap.size < wr.heap.size := Blk.lt BT
      generalize whenN x.e = f1 at HF hms
      generalize cmpN x.e last = cm at HC hms
      generalize mayI x.a = f2 at HA2 hms
      generalize mayI x.o = f3 at HO2 hms
      clear hcc hx hcx hs
      cases f1
      · go_wp2_with (first
      | (refine wpList_loadT rfl (.tmp 29) rfl b (off + k * 22) rfl x hrg ?_)
      | (refine wpList_storeT rfl 62 (.tmp 5) (.tmp 30) rfl wr.heap.size _ (slcCells x).toArray (Blk.new wr _ _) rfl rfl (by kernel_rfl) rfl (slc_one x) ?_
         intro W1 BS1 hk1 hl1
         have HL4 := hl1 w.heap.size w hbs (bl_alloc HB _)
         have BL4 := hk1 _ _ _ (Nat.ne_of_lt hgl) (BL.alloc _)
         have BT4 := hk1 _ _ _ (Nat.ne_of_lt hgt) (BT.alloc _)
         have BS4 := BS1
         have y0 := BS1.at_ 0 (u := .i x.e.k) rfl; have y1 := BS1.at_ 1 (u := .b x.e.n) rfl; have y2 := BS1.at_ 2 (u := .u x.e.m) rfl; have y3 := BS1.at_ 3 (u := .i x.e.e) rfl
         clear hk1 hl1 BS1)
      | (refine wpList_storeT rfl 32 (.tmp 3) (.tmp 55) rfl g _ #[.i x.e.k, .b x.e.n, .u x.e.m, .i x.e.e] BL8 rfl rfl (by kernel_rfl) rfl (by simp [Value.oneCell']) ?_; intro W9 BL9 hk9 hl9; have HL9 := hl9 w.heap.size w (Nat.le_of_lt hg3) HL8; have BT9 := hk9 _ _ _ (Nat.ne_of_lt hg3) BT8; clear hk9 hl9)
      | (go_at_call 26; (with_reducible refine (HF.out _).mono ?_); rintro e W5 ⟨rfl, hb⟩; have HL5 := HL4.trans (hb.mono HL4.size); have BS5 := BS4.call hb; have BL5 := BL4.call hb; have BT5 := BT4.call hb; clear y0 y1 y2 y3; have y0 := BS5.at_ 0 (u := .i x.e.k) rfl; have y1 := BS5.at_ 1 (u := .b x.e.n) rfl; have y2 := BS5.at_ 2 (u := .u x.e.m) rfl; have y3 := BS5.at_ 3 (u := .i x.e.e) rfl; obtain ⟨⟨l0, l1, l2, l3⟩, ⟨g0, g1, g2, g3⟩⟩ := BL5.c4; clear hb)
      | (go_at_call 28; (with_reducible refine (HC.out _).mono ?_); rintro e W6 ⟨rfl, hb⟩; have HL6 := HL5.trans (hb.mono HL5.size); have BS6 := BS5.call hb; have BL6 := BL5.call hb; have BT6 := BT5.call hb; clear y0 y1 y2 y3; clear l0 l1 l2 l3 g0 g1 g2 g3; have y4 := BS6.at_ 4 (u := .b x.a.emp) rfl; have y5 := BS6.at_ 5 (u := .i x.a.lo.k) rfl; have y6 := BS6.at_ 6 (u := .b x.a.lo.n) rfl; have y7 := BS6.at_ 7 (u := .u x.a.lo.m) rfl; have y8 := BS6.at_ 8 (u := .i x.a.lo.e) rfl; have y9 := BS6.at_ 9 (u := .i x.a.hi.k) rfl; have y10 := BS6.at_ 10 (u := .b x.a.hi.n) rfl; have y11 := BS6.at_ 11 (u := .u x.a.hi.m) rfl; have y12 := BS6.at_ 12 (u := .i x.a.hi.e) rfl; clear hb)
      | (go_at_call 27; first | ((with_reducible refine (HA2.out _).mono ?_); rintro e W7 ⟨rfl, hb⟩; have HL7 := HL6.trans (hb.mono HL6.size); have BS7 := BS6.call hb; have BL7 := BL6.call hb; have BT7 := BT6.call hb; clear y4 y5 y6 y7 y8 y9 y10 y11 y12; have y13 := BS7.at_ 13 (u := .b x.o.emp) rfl; have y14 := BS7.at_ 14 (u := .i x.o.lo.k) rfl; have y15 := BS7.at_ 15 (u := .b x.o.lo.n) rfl; have y16 := BS7.at_ 16 (u := .u x.o.lo.m) rfl; have y17 := BS7.at_ 17 (u := .i x.o.lo.e) rfl; have y18 := BS7.at_ 18 (u := .i x.o.hi.k) rfl; have y19 := BS7.at_ 19 (u := .b x.o.hi.n) rfl; have y20 := BS7.at_ 20 (u := .u x.o.hi.m) rfl; have y21 := BS7.at_ 21 (u := .i x.o.hi.e) rfl; clear hb) | ((with_reducible refine (HO2.out _).mono ?_); rintro e W8 ⟨rfl, hb⟩; have HL8 := HL7.trans (hb.mono HL7.size); have BS8 := BS7.call hb; have BL8 := BL7.call hb; have BT8 := BT7.call hb; clear y13 y14 y15 y16 y17 y18 y19 y20 y21; have y0 := BS8.at_ 0 (u := .i x.e.k) rfl; have y1 := BS8.at_ 1 (u := .b x.e.n) rfl; have y2 := BS8.at_ 2 (u := .u x.e.m) rfl; have y3 := BS8.at_ 3 (u := .i x.e.e) rfl; clear hb)))
        go_ret
        exact ⟨ret_boolC (by rw [← hms]; simp), HL5⟩
      by_cases hcm : cm ≤ 0
      · go_wp2_with (first
      | (refine wpList_loadT rfl (.tmp 29) rfl b (off + k * 22) rfl x hrg ?_)
      | (refine wpList_storeT rfl 62 (.tmp 5) (.tmp 30) rfl wr.heap.size _ (slcCells x).toArray (Blk.new wr _ _) rfl rfl (by kernel_rfl) rfl (slc_one x) ?_
         intro W1 BS1 hk1 hl1
         have HL4 := hl1 w.heap.size w hbs (bl_alloc HB _)
         have BL4 := hk1 _ _ _ (Nat.ne_of_lt hgl) (BL.alloc _)
         have BT4 := hk1 _ _ _ (Nat.ne_of_lt hgt) (BT.alloc _)
         have BS4 := BS1
         have y0 := BS1.at_ 0 (u := .i x.e.k) rfl; have y1 := BS1.at_ 1 (u := .b x.e.n) rfl; have y2 := BS1.at_ 2 (u := .u x.e.m) rfl; have y3 := BS1.at_ 3 (u := .i x.e.e) rfl
         clear hk1 hl1 BS1)
      | (refine wpList_storeT rfl 32 (.tmp 3) (.tmp 55) rfl g _ #[.i x.e.k, .b x.e.n, .u x.e.m, .i x.e.e] BL8 rfl rfl (by kernel_rfl) rfl (by simp [Value.oneCell']) ?_; intro W9 BL9 hk9 hl9; have HL9 := hl9 w.heap.size w (Nat.le_of_lt hg3) HL8; have BT9 := hk9 _ _ _ (Nat.ne_of_lt hg3) BT8; clear hk9 hl9)
      | (go_at_call 26; (with_reducible refine (HF.out _).mono ?_); rintro e W5 ⟨rfl, hb⟩; have HL5 := HL4.trans (hb.mono HL4.size); have BS5 := BS4.call hb; have BL5 := BL4.call hb; have BT5 := BT4.call hb; clear y0 y1 y2 y3; have y0 := BS5.at_ 0 (u := .i x.e.k) rfl; have y1 := BS5.at_ 1 (u := .b x.e.n) rfl; have y2 := BS5.at_ 2 (u := .u x.e.m) rfl; have y3 := BS5.at_ 3 (u := .i x.e.e) rfl; obtain ⟨⟨l0, l1, l2, l3⟩, ⟨g0, g1, g2, g3⟩⟩ := BL5.c4; clear hb)
      | (go_at_call 28; (with_reducible refine (HC.out _).mono ?_); rintro e W6 ⟨rfl, hb⟩; have HL6 := HL5.trans (hb.mono HL5.size); have BS6 := BS5.call hb; have BL6 := BL5.call hb; have BT6 := BT5.call hb; clear y0 y1 y2 y3; clear l0 l1 l2 l3 g0 g1 g2 g3; have y4 := BS6.at_ 4 (u := .b x.a.emp) rfl; have y5 := BS6.at_ 5 (u := .i x.a.lo.k) rfl; have y6 := BS6.at_ 6 (u := .b x.a.lo.n) rfl; have y7 := BS6.at_ 7 (u := .u x.a.lo.m) rfl; have y8 := BS6.at_ 8 (u := .i x.a.lo.e) rfl; have y9 := BS6.at_ 9 (u := .i x.a.hi.k) rfl; have y10 := BS6.at_ 10 (u := .b x.a.hi.n) rfl; have y11 := BS6.at_ 11 (u := .u x.a.hi.m) rfl; have y12 := BS6.at_ 12 (u := .i x.a.hi.e) rfl; clear hb)
      | (go_at_call 27; first | ((with_reducible refine (HA2.out _).mono ?_); rintro e W7 ⟨rfl, hb⟩; have HL7 := HL6.trans (hb.mono HL6.size); have BS7 := BS6.call hb; have BL7 := BL6.call hb; have BT7 := BT6.call hb; clear y4 y5 y6 y7 y8 y9 y10 y11 y12; have y13 := BS7.at_ 13 (u := .b x.o.emp) rfl; have y14 := BS7.at_ 14 (u := .i x.o.lo.k) rfl; have y15 := BS7.at_ 15 (u := .b x.o.lo.n) rfl; have y16 := BS7.at_ 16 (u := .u x.o.lo.m) rfl; have y17 := BS7.at_ 17 (u := .i x.o.lo.e) rfl; have y18 := BS7.at_ 18 (u := .i x.o.hi.k) rfl; have y19 := BS7.at_ 19 (u := .b x.o.hi.n) rfl; have y20 := BS7.at_ 20 (u := .u x.o.hi.m) rfl; have y21 := BS7.at_ 21 (u := .i x.o.hi.e) rfl; clear hb) | ((with_reducible refine (HO2.out _).mono ?_); rintro e W8 ⟨rfl, hb⟩; have HL8 := HL7.trans (hb.mono HL7.size); have BS8 := BS7.call hb; have BL8 := BL7.call hb; have BT8 := BT7.call hb; clear y13 y14 y15 y16 y17 y18 y19 y20 y21; have y0 := BS8.at_ 0 (u := .i x.e.k) rfl; have y1 := BS8.at_ 1 (u := .b x.e.n) rfl; have y2 := BS8.at_ 2 (u := .u x.e.m) rfl; have y3 := BS8.at_ 3 (u := .i x.e.e) rfl; clear hb)))
        go_ret
        exact ⟨ret_boolC (by rw [← hms]; simp [show ¬ 0 < cm by omega]), HL6⟩
      cases f2
      · go_wp2_with (first
      | (refine wpList_loadT rfl (.tmp 29) rfl b (off + k * 22) rfl x hrg ?_)
      | (refine wpList_storeT rfl 62 (.tmp 5) (.tmp 30) rfl wr.heap.size _ (slcCells x).toArray (Blk.new wr _ _) rfl rfl (by kernel_rfl) rfl (slc_one x) ?_
         intro W1 BS1 hk1 hl1
         have HL4 := hl1 w.heap.size w hbs (bl_alloc HB _)
         have BL4 := hk1 _ _ _ (Nat.ne_of_lt hgl) (BL.alloc _)
         have BT4 := hk1 _ _ _ (Nat.ne_of_lt hgt) (BT.alloc _)
         have BS4 := BS1
         have y0 := BS1.at_ 0 (u := .i x.e.k) rfl; have y1 := BS1.at_ 1 (u := .b x.e.n) rfl; have y2 := BS1.at_ 2 (u := .u x.e.m) rfl; have y3 := BS1.at_ 3 (u := .i x.e.e) rfl
         clear hk1 hl1 BS1)
      | (refine wpList_storeT rfl 32 (.tmp 3) (.tmp 55) rfl g _ #[.i x.e.k, .b x.e.n, .u x.e.m, .i x.e.e] BL8 rfl rfl (by kernel_rfl) rfl (by simp [Value.oneCell']) ?_; intro W9 BL9 hk9 hl9; have HL9 := hl9 w.heap.size w (Nat.le_of_lt hg3) HL8; have BT9 := hk9 _ _ _ (Nat.ne_of_lt hg3) BT8; clear hk9 hl9)
      | (go_at_call 26; (with_reducible refine (HF.out _).mono ?_); rintro e W5 ⟨rfl, hb⟩; have HL5 := HL4.trans (hb.mono HL4.size); have BS5 := BS4.call hb; have BL5 := BL4.call hb; have BT5 := BT4.call hb; clear y0 y1 y2 y3; have y0 := BS5.at_ 0 (u := .i x.e.k) rfl; have y1 := BS5.at_ 1 (u := .b x.e.n) rfl; have y2 := BS5.at_ 2 (u := .u x.e.m) rfl; have y3 := BS5.at_ 3 (u := .i x.e.e) rfl; obtain ⟨⟨l0, l1, l2, l3⟩, ⟨g0, g1, g2, g3⟩⟩ := BL5.c4; clear hb)
      | (go_at_call 28; (with_reducible refine (HC.out _).mono ?_); rintro e W6 ⟨rfl, hb⟩; have HL6 := HL5.trans (hb.mono HL5.size); have BS6 := BS5.call hb; have BL6 := BL5.call hb; have BT6 := BT5.call hb; clear y0 y1 y2 y3; clear l0 l1 l2 l3 g0 g1 g2 g3; have y4 := BS6.at_ 4 (u := .b x.a.emp) rfl; have y5 := BS6.at_ 5 (u := .i x.a.lo.k) rfl; have y6 := BS6.at_ 6 (u := .b x.a.lo.n) rfl; have y7 := BS6.at_ 7 (u := .u x.a.lo.m) rfl; have y8 := BS6.at_ 8 (u := .i x.a.lo.e) rfl; have y9 := BS6.at_ 9 (u := .i x.a.hi.k) rfl; have y10 := BS6.at_ 10 (u := .b x.a.hi.n) rfl; have y11 := BS6.at_ 11 (u := .u x.a.hi.m) rfl; have y12 := BS6.at_ 12 (u := .i x.a.hi.e) rfl; clear hb)
      | (go_at_call 27; first | ((with_reducible refine (HA2.out _).mono ?_); rintro e W7 ⟨rfl, hb⟩; have HL7 := HL6.trans (hb.mono HL6.size); have BS7 := BS6.call hb; have BL7 := BL6.call hb; have BT7 := BT6.call hb; clear y4 y5 y6 y7 y8 y9 y10 y11 y12; have y13 := BS7.at_ 13 (u := .b x.o.emp) rfl; have y14 := BS7.at_ 14 (u := .i x.o.lo.k) rfl; have y15 := BS7.at_ 15 (u := .b x.o.lo.n) rfl; have y16 := BS7.at_ 16 (u := .u x.o.lo.m) rfl; have y17 := BS7.at_ 17 (u := .i x.o.lo.e) rfl; have y18 := BS7.at_ 18 (u := .i x.o.hi.k) rfl; have y19 := BS7.at_ 19 (u := .b x.o.hi.n) rfl; have y20 := BS7.at_ 20 (u := .u x.o.hi.m) rfl; have y21 := BS7.at_ 21 (u := .i x.o.hi.e) rfl; clear hb) | ((with_reducible refine (HO2.out _).mono ?_); rintro e W8 ⟨rfl, hb⟩; have HL8 := HL7.trans (hb.mono HL7.size); have BS8 := BS7.call hb; have BL8 := BL7.call hb; have BT8 := BT7.call hb; clear y13 y14 y15 y16 y17 y18 y19 y20 y21; have y0 := BS8.at_ 0 (u := .i x.e.k) rfl; have y1 := BS8.at_ 1 (u := .b x.e.n) rfl; have y2 := BS8.at_ 2 (u := .u x.e.m) rfl; have y3 := BS8.at_ 3 (u := .i x.e.e) rfl; clear hb)))
        go_ret
        exact ⟨ret_boolC (by rw [← hms]; simp), HL7⟩
      cases f3
      · go_wp2_with (first
      | (refine wpList_loadT rfl (.tmp 29) rfl b (off + k * 22) rfl x hrg ?_)
      | (refine wpList_storeT rfl 62 (.tmp 5) (.tmp 30) rfl wr.heap.size _ (slcCells x).toArray (Blk.new wr _ _) rfl rfl (by kernel_rfl) rfl (slc_one x) ?_
         intro W1 BS1 hk1 hl1
         have HL4 := hl1 w.heap.size w hbs (bl_alloc HB _)
         have BL4 := hk1 _ _ _ (Nat.ne_of_lt hgl) (BL.alloc _)
         have BT4 := hk1 _ _ _ (Nat.ne_of_lt hgt) (BT.alloc _)
         have BS4 := BS1
         have y0 := BS1.at_ 0 (u := .i x.e.k) rfl; have y1 := BS1.at_ 1 (u := .b x.e.n) rfl; have y2 := BS1.at_ 2 (u := .u x.e.m) rfl; have y3 := BS1.at_ 3 (u := .i x.e.e) rfl
         clear hk1 hl1 BS1)
      | (refine wpList_storeT rfl 32 (.tmp 3) (.tmp 55) rfl g _ #[.i x.e.k, .b x.e.n, .u x.e.m, .i x.e.e] BL8 rfl rfl (by kernel_rfl) rfl (by simp [Value.oneCell']) ?_; intro W9 BL9 hk9 hl9; have HL9 := hl9 w.heap.size w (Nat.le_of_lt hg3) HL8; have BT9 := hk9 _ _ _ (Nat.ne_of_lt hg3) BT8; clear hk9 hl9)
      | (go_at_call 26; (with_reducible refine (HF.out _).mono ?_); rintro e W5 ⟨rfl, hb⟩; have HL5 := HL4.trans (hb.mono HL4.size); have BS5 := BS4.call hb; have BL5 := BL4.call hb; have BT5 := BT4.call hb; clear y0 y1 y2 y3; have y0 := BS5.at_ 0 (u := .i x.e.k) rfl; have y1 := BS5.at_ 1 (u := .b x.e.n) rfl; have y2 := BS5.at_ 2 (u := .u x.e.m) rfl; have y3 := BS5.at_ 3 (u := .i x.e.e) rfl; obtain ⟨⟨l0, l1, l2, l3⟩, ⟨g0, g1, g2, g3⟩⟩ := BL5.c4; clear hb)
      | (go_at_call 28; (with_reducible refine (HC.out _).mono ?_); rintro e W6 ⟨rfl, hb⟩; have HL6 := HL5.trans (hb.mono HL5.size); have BS6 := BS5.call hb; have BL6 := BL5.call hb; have BT6 := BT5.call hb; clear y0 y1 y2 y3; clear l0 l1 l2 l3 g0 g1 g2 g3; have y4 := BS6.at_ 4 (u := .b x.a.emp) rfl; have y5 := BS6.at_ 5 (u := .i x.a.lo.k) rfl; have y6 := BS6.at_ 6 (u := .b x.a.lo.n) rfl; have y7 := BS6.at_ 7 (u := .u x.a.lo.m) rfl; have y8 := BS6.at_ 8 (u := .i x.a.lo.e) rfl; have y9 := BS6.at_ 9 (u := .i x.a.hi.k) rfl; have y10 := BS6.at_ 10 (u := .b x.a.hi.n) rfl; have y11 := BS6.at_ 11 (u := .u x.a.hi.m) rfl; have y12 := BS6.at_ 12 (u := .i x.a.hi.e) rfl; clear hb)
      | (go_at_call 27; first | ((with_reducible refine (HA2.out _).mono ?_); rintro e W7 ⟨rfl, hb⟩; have HL7 := HL6.trans (hb.mono HL6.size); have BS7 := BS6.call hb; have BL7 := BL6.call hb; have BT7 := BT6.call hb; clear y4 y5 y6 y7 y8 y9 y10 y11 y12; have y13 := BS7.at_ 13 (u := .b x.o.emp) rfl; have y14 := BS7.at_ 14 (u := .i x.o.lo.k) rfl; have y15 := BS7.at_ 15 (u := .b x.o.lo.n) rfl; have y16 := BS7.at_ 16 (u := .u x.o.lo.m) rfl; have y17 := BS7.at_ 17 (u := .i x.o.lo.e) rfl; have y18 := BS7.at_ 18 (u := .i x.o.hi.k) rfl; have y19 := BS7.at_ 19 (u := .b x.o.hi.n) rfl; have y20 := BS7.at_ 20 (u := .u x.o.hi.m) rfl; have y21 := BS7.at_ 21 (u := .i x.o.hi.e) rfl; clear hb) | ((with_reducible refine (HO2.out _).mono ?_); rintro e W8 ⟨rfl, hb⟩; have HL8 := HL7.trans (hb.mono HL7.size); have BS8 := BS7.call hb; have BL8 := BL7.call hb; have BT8 := BT7.call hb; clear y13 y14 y15 y16 y17 y18 y19 y20 y21; have y0 := BS8.at_ 0 (u := .i x.e.k) rfl; have y1 := BS8.at_ 1 (u := .b x.e.n) rfl; have y2 := BS8.at_ 2 (u := .u x.e.m) rfl; have y3 := BS8.at_ 3 (u := .i x.e.e) rfl; clear hb)))
        go_ret
        exact ⟨ret_boolC (by rw [← hms]; simp), HL8⟩
      go_wp2_with (first
      | (refine wpList_loadT rfl (.tmp 29) rfl b (off + k * 22) rfl x hrg ?_)
      | (refine wpList_storeT rfl 62 (.tmp 5) (.tmp 30) rfl wr.heap.size _ (slcCells x).toArray (Blk.new wr _ _) rfl rfl (by kernel_rfl) rfl (slc_one x) ?_
         intro W1 BS1 hk1 hl1
         have HL4 := hl1 w.heap.size w hbs (bl_alloc HB _)
         have BL4 := hk1 _ _ _ (Nat.ne_of_lt hgl) (BL.alloc _)
         have BT4 := hk1 _ _ _ (Nat.ne_of_lt hgt) (BT.alloc _)
         have BS4 := BS1
         have y0 := BS1.at_ 0 (u := .i x.e.k) rfl; have y1 := BS1.at_ 1 (u := .b x.e.n) rfl; have y2 := BS1.at_ 2 (u := .u x.e.m) rfl; have y3 := BS1.at_ 3 (u := .i x.e.e) rfl
         clear hk1 hl1 BS1)
      | (refine wpList_storeT rfl 32 (.tmp 3) (.tmp 55) rfl g _ #[.i x.e.k, .b x.e.n, .u x.e.m, .i x.e.e] BL8 rfl rfl (by kernel_rfl) rfl (by simp [Value.oneCell']) ?_; intro W9 BL9 hk9 hl9; have HL9 := hl9 w.heap.size w (Nat.le_of_lt hg3) HL8; have BT9 := hk9 _ _ _ (Nat.ne_of_lt hg3) BT8; clear hk9 hl9)
      | (go_at_call 26; (with_reducible refine (HF.out _).mono ?_); rintro e W5 ⟨rfl, hb⟩; have HL5 := HL4.trans (hb.mono HL4.size); have BS5 := BS4.call hb; have BL5 := BL4.call hb; have BT5 := BT4.call hb; clear y0 y1 y2 y3; have y0 := BS5.at_ 0 (u := .i x.e.k) rfl; have y1 := BS5.at_ 1 (u := .b x.e.n) rfl; have y2 := BS5.at_ 2 (u := .u x.e.m) rfl; have y3 := BS5.at_ 3 (u := .i x.e.e) rfl; obtain ⟨⟨l0, l1, l2, l3⟩, ⟨g0, g1, g2, g3⟩⟩ := BL5.c4; clear hb)
      | (go_at_call 28; (with_reducible refine (HC.out _).mono ?_); rintro e W6 ⟨rfl, hb⟩; have HL6 := HL5.trans (hb.mono HL5.size); have BS6 := BS5.call hb; have BL6 := BL5.call hb; have BT6 := BT5.call hb; clear y0 y1 y2 y3; clear l0 l1 l2 l3 g0 g1 g2 g3; have y4 := BS6.at_ 4 (u := .b x.a.emp) rfl; have y5 := BS6.at_ 5 (u := .i x.a.lo.k) rfl; have y6 := BS6.at_ 6 (u := .b x.a.lo.n) rfl; have y7 := BS6.at_ 7 (u := .u x.a.lo.m) rfl; have y8 := BS6.at_ 8 (u := .i x.a.lo.e) rfl; have y9 := BS6.at_ 9 (u := .i x.a.hi.k) rfl; have y10 := BS6.at_ 10 (u := .b x.a.hi.n) rfl; have y11 := BS6.at_ 11 (u := .u x.a.hi.m) rfl; have y12 := BS6.at_ 12 (u := .i x.a.hi.e) rfl; clear hb)
      | (go_at_call 27; first | ((with_reducible refine (HA2.out _).mono ?_); rintro e W7 ⟨rfl, hb⟩; have HL7 := HL6.trans (hb.mono HL6.size); have BS7 := BS6.call hb; have BL7 := BL6.call hb; have BT7 := BT6.call hb; clear y4 y5 y6 y7 y8 y9 y10 y11 y12; have y13 := BS7.at_ 13 (u := .b x.o.emp) rfl; have y14 := BS7.at_ 14 (u := .i x.o.lo.k) rfl; have y15 := BS7.at_ 15 (u := .b x.o.lo.n) rfl; have y16 := BS7.at_ 16 (u := .u x.o.lo.m) rfl; have y17 := BS7.at_ 17 (u := .i x.o.lo.e) rfl; have y18 := BS7.at_ 18 (u := .i x.o.hi.k) rfl; have y19 := BS7.at_ 19 (u := .b x.o.hi.n) rfl; have y20 := BS7.at_ 20 (u := .u x.o.hi.m) rfl; have y21 := BS7.at_ 21 (u := .i x.o.hi.e) rfl; clear hb) | ((with_reducible refine (HO2.out _).mono ?_); rintro e W8 ⟨rfl, hb⟩; have HL8 := HL7.trans (hb.mono HL7.size); have BS8 := BS7.call hb; have BL8 := BL7.call hb; have BT8 := BT7.call hb; clear y13 y14 y15 y16 y17 y18 y19 y20 y21; have y0 := BS8.at_ 0 (u := .i x.e.k) rfl; have y1 := BS8.at_ 1 (u := .b x.e.n) rfl; have y2 := BS8.at_ 2 (u := .u x.e.m) rfl; have y3 := BS8.at_ 3 (u := .i x.e.e) rfl; clear hb)))
      go_roundw
      case rel => exact ⟨k + 1, x.e, by omega, by go_num, by rw [← hms]; simp [show 0 < cm by omega], BL9, BT9, HL9⟩
      case measure => simp [intOf] <;> omega
    · have hkn : n = k := by omega
      subst hkn
      rw [drop_end hs.1] at hms
      have Hms := Lib.hid hms
      clear hms
      go_wp2
      go_ret
      exact ⟨ret_boolC Hms.out, HB⟩

end Go.Proofs.YteabdeohhmbclaaGreat.Wk
namespace Go.Proofs.YteabdeohhmbclaaGreat.Wk
open Go.RowKit Go.Proofs.Pl Go.Proofs.YteabdeohhmbclaaGreatW.PrintLast
set_option linter.unusedSimpArgs false
set_option linter.unusedVariables false

def endT (s : Num) (xs : List Slc) : Num := ((xs.getLast?).map (·.e)).getD s
theorem endT_some {s : Num} {xs : List Slc} {n : Nat} {x : Slc} (h : xs.length = n + 1) (hx : xs[n]? = some x) : endT s xs = x.e := by
 unfold endT
 rw [List.getLast?_eq_getElem?, h, Nat.add_sub_cancel, hx]
 rfl
theorem SlT.at_ {w : World} {B n : Nat} {A : Option Addr} {xs : List Slc} (h : SlT w B A n xs) {k : Nat} (hk : k < n) : ∃ b off x, A = some ⟨b, off, none⟩ ∧ b < B ∧ xs[k]? = some x ∧ ∀ (j : Nat) (u : Value), (slcCells x)[j]? = some u → w.cell? ⟨b, off + k * 22 + j, none⟩ = some u := by
 obtain ⟨b, off, e, hb, hc⟩ := h.2 (by omega)
 have hl : k < xs.length := by have := h.1; omega
 exact ⟨b, off, xs[k], e, hb, List.getElem?_eq_getElem hl, hc k _ (List.getElem?_eq_getElem hl)⟩
set_option maxRecDepth 100000 in
set_option maxHeartbeats 4000000 in
theorem tend_calls (s0 : Int) (s1 : Bool) (s2 s3 : Int) (i0 : Bool) (i1 : Int) (i2 : Bool) (i3 i4 i5 : Int) (i6 : Bool) (i7 i8 : Int) (A : Option Addr) (n c : Nat) (xs : List Slc) (w : World) (hs : SlT w w.heap.size A n xs) (hn : n ≤ 1000) :
  Calls Tryz.prog 89 #[.agg #[.i s0, .b s1, .u s2, .i s3, .b i0, .i i1, .b i2, .u i3, .i i4, .i i5, .b i6, .u i7, .i i8, .slice A n c]] w fun e w' => e = .returned (.agg #[.i (endT ⟨s0, s1, s2, s3⟩ xs).k, .b (endT ⟨s0, s1, s2, s3⟩ xs).n, .u (endT ⟨s0, s1, s2, s3⟩ xs).m, .i (endT ⟨s0, s1, s2, s3⟩ xs).e]) ∧ Below w.heap.size w w' := by
 have BR : Blk _ (w.heap.size + 1) 32 #[.i 0, .b false, .u 0, .i 0] := Blk.new1 w (.cells #[.i s0, .b s1, .u s2, .i s3, .b i0, .i i1, .b i2, .u i3, .i i4, .i i5, .b i6, .u i7, .i i8, .slice A n c] 37) _ _
 have HBd := (bl_alloc (bl_alloc (Below.refl w.heap.size w) (.cells #[.i s0, .b s1, .u s2, .i s3, .b i0, .i i1, .b i2, .u i3, .i i4, .i i5, .b i6, .u i7, .i i8, .slice A n c] 37)) (.cells #[.i 0, .b false, .u 0, .i 0] 32))
 rcases Nat.eq_zero_or_pos n with h0 | h0
 ·subst h0
  have he : endT ⟨s0, s1, s2, s3⟩ xs = ⟨s0, s1, s2, s3⟩ := by rw [List.eq_nil_of_length_eq_zero hs.1]; rfl
  rw [he]
  clear hs he
  dsimp only
  go_enter Tryz.func89, Tryz.ntmps89
  go_wp2_with (refine wpList_stG rfl 32 (.tmp 2) (.tmp 17) rfl (w.heap.size + 1) _ #[.i s0, .b s1, .u s2, .i s3] BR rfl rfl (by kernel_rfl) rfl (by simp [Value.oneCell']) ?_; intro W9 B9 P9; have HB9 := P9.bel HBd (by omega))
  exact bodyPost_ret (results_cell_row rfl _ _ (w.heap.size + 1) 32 _ (0, 0) _ rfl B9 Tryz.underlying32 rfl (by kernel_rfl)) rfl ⟨rfl, HB9⟩
 ·obtain ⟨m, rfl⟩ : ∃ m, n = m + 1 := ⟨n - 1, by omega⟩
  obtain ⟨b, off, x, rfl, hbB, hx, hc⟩ := hs.at_ (k := m) (by omega)
  rw [endT_some hs.1 hx]
  have e0 : w.cell? ⟨b, off + m * 22, none⟩ = some (.i x.e.k) := hc 0 _ rfl
  have e1 : w.cell? ⟨b, off + m * 22 + 1, none⟩ = some (.b x.e.n) := hc 1 _ rfl
  have e2 : w.cell? ⟨b, off + m * 22 + 2, none⟩ = some (.u x.e.m) := hc 2 _ rfl
  have e3 : w.cell? ⟨b, off + m * 22 + 3, none⟩ = some (.i x.e.e) := hc 3 _ rfl
  have em : (((m + 1 : Nat) : Int) - 1) = m := by omega
  obtain ⟨⟨x0, x1, x2, x3⟩, xa, xo⟩ := x
  dsimp only at e0 e1 e2 e3 ⊢
  clear hs hc hx
  have hmp : 0 < m + 1 := by omega
  go_enter Tryz.func89, Tryz.ntmps89
  go_wp2_with (refine wpList_stG rfl 32 (.tmp 2) (.tmp 15) rfl (w.heap.size + 1) _ #[.i x0, .b x1, .u x2, .i x3] BR rfl rfl (by kernel_rfl) rfl (by simp [Value.oneCell']) ?_; intro W9 B9 P9; have HB9 := P9.bel HBd (by omega))
  exact bodyPost_ret (results_cell_row rfl _ _ (w.heap.size + 1) 32 _ (0, 0) _ rfl B9 Tryz.underlying32 rfl (by kernel_rfl)) rfl ⟨rfl, HB9⟩
set_option maxHeartbeats 1000000 in
theorem gates_calls (s0 : Int) (s1 : Bool) (s2 s3 : Int) (i0 : Bool) (i1 : Int) (i2 : Bool) (i3 i4 i5 : Int) (i6 : Bool) (i7 i8 : Int) (A : Option Addr) (n c : Nat) (w : World) :
  Calls Tryz.prog 92 #[.agg #[.i s0, .b s1, .u s2, .i s3, .b i0, .i i1, .b i2, .u i3, .i i4, .i i5, .b i6, .u i7, .i i8, .slice A n c]] w fun e w' => e = .returned (.func (.func 102) #[] #[.pointer (some ⟨w.heap.size, 0, none⟩)]) ∧ w' = w.alloc (.cells #[.i s0, .b s1, .u s2, .i s3, .b i0, .i i1, .b i2, .u i3, .i i4, .i i5, .b i6, .u i7, .i i8, .slice A n c] 37) := by
 go_enter Tryz.func92, Tryz.ntmps92
 go_wp2
 go_ret
 exact ⟨rfl, rfl⟩
end Go.Proofs.YteabdeohhmbclaaGreat.Wk
